/- What some functions compute, over plain values. -/
import Derived.Test.YthbogefcfhmpgaaGreatK16
set_option linter.unusedVariables false
set_option linter.unusedSimpArgs false
set_option maxRecDepth 100000
set_option maxHeartbeats 8000000
namespace Go.Proofs.YthbogefcfhmpgaaGreat
open Go.RowKit List
open LeX renaming a->aA,trans->aE,adopt->aQ,itc->bV
open RetX renaming oB->aB
open AW renaming stepU->aC,step->aF,regO->aG,frzO->aY,pckO->bR
open Tryz renaming func284->aD,func187->aZ,func188->bA,func189->bB,func263->bC,func237->bD,prog->bE,ntmps188->bH,ntmps189->bI,func365->bJ,func366->bK,func367->bL,func368->bM,func369->bN,func239->bP,func116->bQ
open EqX renaming A->aH
open ConG renaming up->aJ,walk->aL
open IdxX renaming A->aK,oD->cB
open SubL renaming refl->aM
open A3 renaming o->aN,t->aO,f->aP
open Ap renaming I->aR
open CI renaming w->aS
open Ad renaming I->aT,oM->bX
open AppX renaming oA->aU
open Nat renaming le_refl->aV
open B3 renaming oM->aW
open OpX renaming lkv->bG,rng->bS,nxt->bT,ent->bU
noncomputable section
instance zaq {n a0}:CI E0 (D4 n a0) true 98 [.bool (a0)] Aa:=by unfold D4;exact aS [] Tryz.func98
end
noncomputable section
abbrev z50 {n}:=jf (Hb n) (fun b=>⟨[(2,.bool (b))],[]⟩) fun _=>Hb.eq_1 ..
abbrev z4z {n}:=jf (Fy n) (fun b=>⟨[(4,.bool (b))],[]⟩) fun _=>Fy.eq_1 ..
attribute [instance]         z50 z4z
instance zef {n a0}:CI E0 (Mr n a0) true 351 [aI a0] (fun r=>.bool (r)):=by unfold Mr;exact aS [1] Tryz.func351
instance zee {n a0 a1}:CI E0 (Mq n a0 a1) true 361 [aI a0,Aa a1] (fun r=>.bool (r)):=by unfold Mq;exact aS [1] Tryz.func361
instance zed {n a0 a1}:CI E0 (Jj n a0 a1) true 352 [aI a0,Aa a1] aI:=by unfold Jj;exact aS [] Tryz.func352
instance zd7 {n a0 a1}:CI E0 (Sj n a0 a1) true 356 [aI a0,Aa a1] Aa:=by unfold Sj;exact aS [] Tryz.func356
instance zac {n}:CI E0 (S6 n) true 364 [] Aa:=by unfold S6;exact aS [] Tryz.func364
def z4n (m0:A5)(m1:A5):List (Nat×Ent):=[(100000,.box 144 (Bv m0)),(100001,.box 144 (Bv m1))]
def Rw (r:A5×A5×A5):List (Nat×Ent):=[(2,.box 144 (Bv r.1)),(100000,.box 144 (Bv r.2.1)),(100001,.box 144 (Bv r.2.2))]
def Vk (r:A5×A5×A5):AV:=.agg [aI (r.1.fKind),aI (r.1.fNum),.str (r.1.fText)]
def z4f (r:A5×A5×A5):AS:=⟨[(2,.ptr 2 0),(0,.ptr 100000 0),(1,.ptr 100001 0)],Rw r⟩
end
noncomputable section
abbrev z49 {n c a1 d}:=li (M0 n c a1 d) (fun b=>⟨[(2,.fn 354 [.ref [aI c]]),(3,.ptr 3 0),(6,.ptr 6 0),(9,.sl 3 (a1.map Aa)),(10,aI (((a1.map Aa).length:Int))),(11,aI b.1)],[(3,.box 381 [aI b.2.1,aI b.2.2.1,aI b.2.2.2.1,aI b.2.2.2.2.1,.str (b.2.2.2.2.2)]),(6,.box 381 [aI 0,aI 0,aI 0,aI 0,.str (ByteArray.empty)])]⟩) fun _ _=>M0.eq_2 ..
abbrev z51 {n a0}:=jf (J9 n a0) (fun b=>⟨[(1,.ptr 1 0),(10,.bool (b))],[(1,.box 381 (Za a0))]⟩) fun _=>J9.eq_1 ..
abbrev z4a {n a1 a0}:=jf (J7 n a1 a0) (fun b=>⟨[(2,.ptr 2 0),(3,.ptr 3 0),(4,.ptr 4 0),(29,.bool (b))],[(2,.box 381 (Za a0)),(3,.box 144 (Bv a1)),(4,.box 144 [aI 0,aI 0,.str (ByteArray.empty)])]⟩) fun _=>J7.eq_1 ..
abbrev z65 {n a2 a1 a0 b}:=li (Ms n a2 a1 a0 b) (fun c=>⟨[(1,.sl 3 (a1.map Aa)),(3,.ptr 3 0),(5,.ptr 5 0),(6,.ptr 6 0),(22,.sl 3 (a1.map Aa)),(23,aI (((a1.map Aa).length:Int))),(24,aI c)],[(3,.box 3 [aI a0]),(5,.box 144 (Bv a2)),(6,.box 144 [aI 0,aI 0,.str (ByteArray.empty)])]⟩) fun _ _=>Ms.eq_2 ..
attribute [instance] z49 z51 z4a z65
theorem z33 {n m0 m1 r}(hF:S5 n m0 m1=some r):ConG E0.P none (CalF E0.P 365 0) [.ptr 100000 0,.ptr 100001 0] [] (z4n m0 m1) (Vk r) (Rw r):=by
 unfold S5 at hF
 refine aL (E:=(E0p 2)) (caps:=[]) _ bJ rfl rfl rfl rfl rfl ?_
 repeat' first
  |refine aF ?_;conv=>whnf
  |exact GX.A (res:=Vk) (meF:=Rw) hF z4f
def z4m (m0:A5)(m1:A5):List (Nat×Ent):=[(100000,.box 144 (Bv m0)),(100001,.box 144 (Bv m1))]
def Rv (r:A5×A5×A5):List (Nat×Ent):=[(2,.box 144 (Bv r.1)),(100000,.box 144 (Bv r.2.1)),(100001,.box 144 (Bv r.2.2))]
def Vj (r:A5×A5×A5):AV:=.agg [aI (r.1.fKind),aI (r.1.fNum),.str (r.1.fText)]
def z4e (r:A5×A5×A5):AS:=⟨[(2,.ptr 2 0),(0,.ptr 100000 0),(1,.ptr 100001 0)],Rv r⟩
theorem z32 {n m0 m1 r}(hF:S4 n m0 m1=some r):ConG E0.P none (CalF E0.P 366 0) [.ptr 100000 0,.ptr 100001 0] [] (z4m m0 m1) (Vj r) (Rv r):=by
 unfold S4 at hF
 refine aL (E:=(E0p 2)) (caps:=[]) _ bK rfl rfl rfl rfl rfl ?_
 repeat' first
  |refine aF ?_;conv=>whnf
  |exact GX.A (res:=Vj) (meF:=Rv) hF z4e
def z4l (m0:A5)(m1:A5):List (Nat×Ent):=[(100000,.box 144 (Bv m0)),(100001,.box 144 (Bv m1))]
def Ru (r:A5×A5×A5):List (Nat×Ent):=[(2,.box 144 (Bv r.1)),(100000,.box 144 (Bv r.2.1)),(100001,.box 144 (Bv r.2.2))]
def Vi (r:A5×A5×A5):AV:=.agg [aI (r.1.fKind),aI (r.1.fNum),.str (r.1.fText)]
def z4d (r:A5×A5×A5):AS:=⟨[(2,.ptr 2 0),(0,.ptr 100000 0),(1,.ptr 100001 0)],Ru r⟩
theorem z31 {n m0 m1 r}(hF:S3 n m0 m1=some r):ConG E0.P none (CalF E0.P 367 0) [.ptr 100000 0,.ptr 100001 0] [] (z4l m0 m1) (Vi r) (Ru r):=by
 unfold S3 at hF
 refine aL (E:=(E0p 2)) (caps:=[]) _ bL rfl rfl rfl rfl rfl ?_
 repeat' first
  |refine aF ?_;conv=>whnf
  |exact GX.A (res:=Vi) (meF:=Ru) hF z4d
def z4k (m0:A5):List (Nat×Ent):=[(100000,.box 144 (Bv m0))]
def Rt (r:A5×A5):List (Nat×Ent):=[(1,.box 144 (Bv r.1)),(100000,.box 144 (Bv r.2))]
def Vh (r:A5×A5):AV:=.agg [aI (r.1.fKind),aI (r.1.fNum),.str (r.1.fText)]
def z4c (r:A5×A5):AS:=⟨[(1,.ptr 1 0),(0,.ptr 100000 0)],Rt r⟩
theorem z30 {n m0 r}(hF:S2 n m0=some r):ConG E0.P none (CalF E0.P 368 0) [.ptr 100000 0] [] (z4k m0) (Vh r) (Rt r):=by
 unfold S2 at hF
 refine aL (E:=(E0p 1)) (caps:=[]) _ bM rfl rfl rfl rfl rfl ?_
 repeat' first
  |refine aF ?_;conv=>whnf
  |exact GX.A (res:=Vh) (meF:=Rt) hF z4c
def z4j (m0:A5):List (Nat×Ent):=[(100000,.box 144 (Bv m0))]
def Rs (r:A5×A5):List (Nat×Ent):=[(1,.box 144 (Bv r.1)),(100000,.box 144 (Bv r.2))]
def Vg (r:A5×A5):AV:=.agg [aI (r.1.fKind),aI (r.1.fNum),.str (r.1.fText)]
def z4b (r:A5×A5):AS:=⟨[(1,.ptr 1 0),(0,.ptr 100000 0)],Rs r⟩
theorem z2z {n m0 r}(hF:S1 n m0=some r):ConG E0.P none (CalF E0.P 369 0) [.ptr 100000 0] [] (z4j m0) (Vg r) (Rs r):=by
 unfold S1 at hF
 refine aL (E:=(E0p 1)) (caps:=[]) _ bN rfl rfl rfl rfl rfl ?_
 repeat' first
  |refine aF ?_;conv=>whnf
  |exact GX.A (res:=Vg) (meF:=Rs) hF z4b
instance zck {n a0 a1 a2}:CI E0 (Pf n a0 a1 a2) true 362 [aI a0,Aa a1,Aa a2] Aa:=⟨fun {r} hF=>by
 unfold Pf at hF
 refine cw Tryz.func362 ?_
 repeat' first
  |refine aF ?_;conv=>whnf
  |refine NatX.oS hF rfl (fun hF=>?_) (fun hF=>?_)
  |(cases hF;done)
  |refine aT hF fun a hF=>?_
  |refine aW (Bb 15 hF) [(100000,4),(100001,5)] [(2,16000000),(100000,4),(100001,5)] _ _ Rw Vk [] (fun a h=>aJ (z33 h)) (B1 bJ rfl rfl) rfl rfl rfl ⟨⟨rfl,rfl⟩,⟨⟨rfl,rfl⟩,trivial⟩⟩ (fun a=>⟨rfl,rfl,rfl,rfl,rfl,rfl,rfl,rfl⟩) (fun a hF=>?_)
  |refine aW (Bb 15 hF) [(100000,4),(100001,5)] [(2,16000000),(100000,4),(100001,5)] _ _ Rv Vj [] (fun a h=>aJ (z32 h)) (B1 bK rfl rfl) rfl rfl rfl ⟨⟨rfl,rfl⟩,⟨⟨rfl,rfl⟩,trivial⟩⟩ (fun a=>⟨rfl,rfl,rfl,rfl,rfl,rfl,rfl,rfl⟩) (fun a hF=>?_)
  |refine aW (Bb 15 hF) [(100000,4),(100001,5)] [(2,16000000),(100000,4),(100001,5)] _ _ Ru Vi [] (fun a h=>aJ (z31 h)) (B1 bL rfl rfl) rfl rfl rfl ⟨⟨rfl,rfl⟩,⟨⟨rfl,rfl⟩,trivial⟩⟩ (fun a=>⟨rfl,rfl,rfl,rfl,rfl,rfl,rfl,rfl⟩) (fun a hF=>?_)
  |refine aW (Bb 15 hF) [(100000,4)] [(1,16000000),(100000,4)] _ _ Rt Vh [] (fun a h=>aJ (z30 h)) (B1 bM rfl rfl) rfl rfl rfl ⟨⟨rfl,rfl⟩,trivial⟩ (fun a=>⟨rfl,rfl,rfl,rfl,rfl,rfl,rfl,rfl⟩) (fun a hF=>?_)
  |refine aW (Bb 15 hF) [(100000,5)] [(1,16000000),(100000,5)] _ _ Rs Vg [] (fun a h=>aJ (z2z h)) (B1 bN rfl rfl) rfl rfl rfl ⟨⟨rfl,rfl⟩,trivial⟩ (fun a=>⟨rfl,rfl,rfl,rfl,rfl,rfl,rfl,rfl⟩) (fun a hF=>?_)
  |exact aB hF⟩
instance zd8 {n a0 a1}:CI E0 (Sk n a0 a1) true 355 [G3 a0,G3 a1] G3:=by unfold Sk;exact aS [] Tryz.func355
instance zg1 {n a0 a1 a2}:CI E0 (Sr n a0 a1 a2) true 354 [G3 a0,Aa a1,.ref [aI a2]] G3:=by unfold Sr;exact aS [] Tryz.func354
instance zd9 {n a0 a1 b}:CI E0 (Po n a0 a1 b) true 353 [G3 a0,.sl 3 (a1.map Aa),.fn 354 [.ref [aI b]]] G3:=by unfold Po;exact aS [] Tryz.func353
instance zeg {n a0}:CI E0 (Pr n a0) true 363 [G3 a0] aI:=by unfold Pr;exact aS [3,7,9,11,6] Tryz.func363
instance zda {n a0 a1}:CI E0 (Mg n a0 a1) true 357 [G3 a0,Aa a1] (fun r=>.tup [Aa r.1,aI r.2]):=by unfold Mg;exact aS [9] Tryz.func357
instance zhh {n a0 a1 a2}:CI E0 (N3 n a0 a1 a2) true 347 [aI a0,.sl 3 (a1.map Aa),Aa a2] (fun r=>.tup [Aa r.1,aI r.2]):=⟨fun {r} hF=>by
 unfold N3 at hF
 refine cw Tryz.func347 ?_
 repeat' first
  |refine aF ?_;conv=>whnf
  |refine aN hF (fun hF=>?_) fun hF=>?_
  |refine aT hF fun a hF=>?_
  |refine B3.I hF (fun a hF=>?_) rfl rfl fun _=>Or.inr rfl
  |refine aK hF fun x hF=>?_
  |exact ⟨_,hF,aA []⟩
  |refine aR hF (aA []) fun m v hF=>?_
  |exact aB hF⟩
instance zl6 {n a0}:CI E0 (Ta n a0) true 207 [aI a0] (fun r=>.bool (r)):=by unfold Ta;exact aS [] Tryz.func207
instance zjc {n a0 a1}:CI E0 (Dt n a0 a1) true 133 [aI a0,aI a1] aI:=by unfold Dt;exact aS [] Tryz.func133
end
noncomputable section
abbrev zeh {n a0 b}:=li (Tb n a0 b) (fun c=>⟨[(3,aI 0),(6,.sl 1 (a0.map aI)),(7,aI (((a0.map aI).length:Int))),(8,aI c)],[]⟩) fun _ _=>Tb.eq_2 ..
attribute [instance] zeh     
instance zno {n a0}:CI E0 (K5 n a0) true 131 [.sl 1 (a0.map aI)] aI:=by unfold K5;exact aS [] Tryz.func131
end
noncomputable section
abbrev z5w {n}:=jf (Mj n) (fun b=>⟨[(2,.bool (b))],[]⟩) fun _=>Mj.eq_1 ..
abbrev z5e {n}:=jf (Ez n) (fun b=>⟨[(2,.bool (b))],[]⟩) fun _=>Ez.eq_1 ..
abbrev z6b {n a0 b c}:=jf (Mu n a0 b c) (fun d=>⟨[(0,.str (a0)),(18,aI (((a0.size:Nat):Int))),(19,aI b),(33,.bool (d))],[]⟩) fun _=>Mu.eq_1 ..
abbrev z6a {n a0 b}:=li (Mt n a0 b) (fun c=>⟨[(0,.str (a0)),(18,aI (((a0.size:Nat):Int))),(19,aI c)],[]⟩) fun _ _=>Mt.eq_2 ..
abbrev z6c {n a0}:=jf (Jk n a0) (fun b=>⟨[(0,.str (a0)),(16,.bool (b))],[]⟩) fun _=>Jk.eq_1 ..
abbrev z40 {n}:=jf (Ly n) (fun b=>⟨[(2,.bool (b))],[]⟩) fun _=>Ly.eq_1 ..
abbrev z5y {n a0 b c d}:=jf (Mm n a0 b c d) (fun e=>⟨[(3,.row 14),(5,.ptr 5 0),(16,.sl 2 (a0.fFields.map Dh)),(17,aI (((a0.fFields.map Dh).length:Int))),(18,aI b.1),(32,.bool (e))],[(5,.box 164 (zej d)),(14,.mp (List.map (encM AV.str AV.bool) (b.2)))]⟩) fun _=>Mm.eq_1 ..
abbrev z5x {n a0 b}:=li (Ml n a0 b) (fun c=>⟨[(3,.row 14),(16,.sl 2 (a0.fFields.map Dh)),(17,aI (((a0.fFields.map Dh).length:Int))),(18,aI c.1)],[(14,.mp (List.map (encM AV.str AV.bool) (c.2)))]⟩) fun _ _=>Ml.eq_2 ..
abbrev z4o {n a0 b}:=li (Sa n a0 b) (fun c=>⟨[(3,.row 10),(11,.sl 2 (a0.map Ay)),(12,aI (((a0.map Ay).length:Int))),(13,aI c.1)],[(10,.mp (List.map (encM AV.str AV.bool) (c.2)))]⟩) fun _ _=>Sa.eq_2 ..
abbrev z60 {n}:=jf (Mn n) (fun b=>⟨[(24,.bool (b))],[]⟩) fun _=>Mn.eq_1 ..
abbrev z3t {n a1 a0 b}:=li (J1 n a1 a0 b) (fun c=>⟨[(1,aI a1),(5,.row 7023),(9,.sl 17 (a0.fEdges.map A7)),(10,aI (((a0.fEdges.map A7).length:Int))),(11,aI c.1)],[(7023,.row 3 1 (c.2.map aI))]⟩) fun _ _=>J1.eq_2 ..
abbrev z0t {n a1 x1 b}:=li (I4 n a1 x1 b) (fun c=>⟨[(1,.ref (Ao a1)),(4,.row 7027),(10,.sl 1 (x1.map aI)),(11,aI (((x1.map aI).length:Int))),(12,aI c.1)],[(7027,.row 3 1 (c.2.map aI))]⟩) fun _ _=>I4.eq_2 ..
attribute [instance]   z5w z5e z6b z6a z6c z40 z5y z5x z4o z60 z3t z0t
instance zhb {n a0}:CI E0 (Sw n a0) true 280 [.int .u8 (a0)] (fun r=>.bool (r)):=by unfold Sw;exact aS [1] Tryz.func280
instance zgu {n a0}:CI E0 (Vs n a0) true 281 [.int .u8 (a0)] (fun r=>.bool (r)):=by unfold Vs;exact aS [1] Tryz.func281
instance zj8 {n a0}:CI E0 (T1 n a0) true 231 [.str (a0)] (fun r=>.bool (r)):=⟨fun {r} hF=>by
 unfold T1 at hF
 refine cw Tryz.func231 ?_
 repeat' first
  |refine AW.jI hF (fun v hF=>?_) fun hF=>?_
  |refine aG hF fun hF=>?_
  |refine aC [1,6] ?_;conv=>whnf
  |refine aN hF (fun hF=>?_) fun hF=>?_
  |refine aO ?_
  |refine aP ?_
  |exact ⟨_,hF,aA []⟩
  |refine OpX.idb hF rfl rfl rfl rfl rfl rfl rfl rfl (fun b hF=>?_)
  |refine aT hF fun a hF=>?_
  |refine aR hF (aA []) fun m v hF=>?_
  |refine AndA ?_
  |refine aH ?_
  |exact aB hF⟩
instance zcz {n a0}:CI E0 (Vq n a0) true 232 [.str (a0)] (fun r=>.bool (r)):=by unfold Vq;exact aS [1] Tryz.func232
theorem Uv (a b:ByteArray):eqK (AV.str a) (AV.str b)=some (decide (a=b)):=by simp [eqK,eq1,aI,Jy]
instance zhc {n a0}:CI E0 (Vy n a0) true 173 [Ay a0] aI:=⟨fun {r} hF=>by
 unfold Vy at hF
 refine cw Tryz.func173 ?_
 repeat' first
  |refine AW.jI hF (fun v hF=>?_) fun hF=>?_
  |refine aG hF fun hF=>?_
  |refine aC [13] ?_;conv=>whnf
  |refine aN hF (fun hF=>?_) fun hF=>?_
  |refine aO ?_
  |refine aP ?_
  |refine aT hF fun a hF=>?_
  |refine aK hF fun x hF=>?_
  |refine LkX.o AV.str AV.bool hF (by first|rfl|kernel_rfl) Uv (by repeat' first|exact Sub.nil _|exact Sub.refl _|refine Sub.agg ?_|refine Sub.tup ?_|refine Sub.fn ?_|exact SubL.nil|refine SubL.cons ?_ ?_|refine Sub.sl _ ?_|exact SubE.nil|refine SubE.cons ?_ ?_) (fun v b hF=>?_)
  |refine UpX.o AV.str AV.bool hF (by first|rfl|kernel_rfl) Uv (by repeat' first|exact Sub.nil _|exact Sub.refl _|refine Sub.agg ?_|refine Sub.tup ?_|refine Sub.fn ?_|exact SubL.nil|refine SubL.cons ?_ ?_|refine Sub.sl _ ?_|exact SubE.nil|refine SubE.cons ?_ ?_) (fun l hF=>?_)
  |exact ⟨_,hF,aA []⟩
  |refine aR hF (aA []) fun m v hF=>?_
  |refine AndA ?_
  |refine aH ?_
  |exact aB hF⟩
instance ze8 {n a0}:CI E0 (Sm n a0) true 104 [.sl 2 (a0.map Ay)] aI:=⟨fun {r} hF=>by
 unfold Sm at hF
 refine cw Tryz.func104 ?_
 repeat' first
  |refine aF ?_;conv=>whnf
  |refine aN hF (fun hF=>?_) fun hF=>?_
  |refine aO ?_
  |refine aP ?_
  |refine aK hF fun x hF=>?_
  |refine aT hF fun a hF=>?_
  |refine LkX.o AV.str AV.bool hF (by first|rfl|kernel_rfl) Uv (by repeat' first|exact Sub.nil _|exact Sub.refl _|refine Sub.agg ?_|refine Sub.tup ?_|refine Sub.fn ?_|exact SubL.nil|refine SubL.cons ?_ ?_|refine Sub.sl _ ?_|exact SubE.nil|refine SubE.cons ?_ ?_) (fun v b hF=>?_)
  |refine UpX.o AV.str AV.bool hF (by first|rfl|kernel_rfl) Uv (by repeat' first|exact Sub.nil _|exact Sub.refl _|refine Sub.agg ?_|refine Sub.tup ?_|refine Sub.fn ?_|exact SubL.nil|refine SubL.cons ?_ ?_|refine Sub.sl _ ?_|exact SubE.nil|refine SubE.cons ?_ ?_) (fun l hF=>?_)
  |exact ⟨_,hF,aA []⟩
  |refine aR hF (aA []) fun m v hF=>?_
  |refine AndA ?_
  |refine aH ?_
  |exact aB hF⟩
instance zhe {n a0 a1 a2}:CI E0 (Sx n a0 a1 a2) true 48 [.sl 2 (a0.map Ay),B4 a1,aI a2] aI:=by unfold Sx;exact aS [7] Tryz.func48
instance zcj {n a0 a1}:CI E0 (Pe n a0 a1) false 118 [B4 a0,aI a1] (fun r=>.sl 1 (r.map aI)):=⟨fun {r} hF=>by
 unfold Pe at hF
 refine cw Tryz.func118 ?_
 repeat' first
  |refine aG hF fun hF=>?_
  |refine aC [5] ?_;conv=>whnf
  |refine aN hF (fun hF=>?_) fun hF=>?_
  |refine aO ?_
  |refine aP ?_
  |refine aK hF fun x hF=>?_
  |refine aU hF fun l hF=>?_
  |exact ⟨_,hF,aA [(7023,23)]⟩
  |exact ⟨_,hF,aA []⟩
  |refine aR hF ?_ fun m v hF=>?_
  |exact aE (aQ 5 7023 3 1 rfl rfl) (aA [])
  |refine AndA ?_
  |refine aH ?_
  |exact aB hF⟩
end
noncomputable section
abbrev z3u {n b a2bc0 x6 c}:=li (H5 n b a2bc0 x6 c) (fun d=>⟨[(1,.ptr 100000 0),(3,.ptr 100001 0),(16,.sl 1 (x6.map aI)),(17,aI (((x6.map aI).length:Int))),(18,aI d.1)],[(100000,.box 44 [.row 200000]),(100001,.box 332 [.fn 284 [.ptr 100000 0,.ref [.fn 240 [.ref (Ao a2bc0)]],.ptr 100001 0]]),(200000,.row 4 1 (d.2.map AV.bool))]⟩) fun _ _=>H5.eq_2 ..
abbrev z4t {n b a1 c}:=li (Ha n b a1 c) (fun d=>⟨[(7,.ptr 7 0),(8,.ptr 8 0),(16,.sl 1 (a1.map aI)),(17,aI (((a1.map aI).length:Int))),(18,aI d.1)],[(7,.box 44 [.row 7014]),(8,.box 332 [.fn 284 [.ptr 7 0,.ref [.fn 240 [.ref (Ao b)]],.ptr 8 0]]),(7014,.row 4 1 (d.2.map AV.bool))]⟩) fun _ _=>Ha.eq_2 ..
abbrev z3r {n a0 b}:=li (J0 n a0 b) (fun c=>⟨[(3,.row 7017),(6,.sl 1 (a0.map AV.bool)),(7,aI (((a0.map AV.bool).length:Int))),(8,aI c.1)],[(7017,.row 3 1 (c.2.map aI))]⟩) fun _ _=>J0.eq_2 ..
abbrev z34 {n a1 a0 b}:=li (Ir n a1 a0 b) (fun c=>⟨[(0,aI a0),(4,.row 7022),(8,.sl 17 (a1.fEdges.map A7)),(9,aI (((a1.fEdges.map A7).length:Int))),(10,aI c.1)],[(7022,.row 3 1 (c.2.map aI))]⟩) fun _ _=>Ir.eq_2 ..
abbrev z07 {n b a2bc0 x6 c}:=li (Gl n b a2bc0 x6 c) (fun d=>⟨[(1,.ptr 100000 0),(3,.ptr 100001 0),(16,.sl 1 (x6.map aI)),(17,aI (((x6.map aI).length:Int))),(18,aI d.1)],[(100000,.box 44 [.row 200000]),(100001,.box 332 [.fn 284 [.ptr 100000 0,.ref [.fn 241 [.ref (Ao a2bc0)]],.ptr 100001 0]]),(200000,.row 4 1 (d.2.map AV.bool))]⟩) fun _ _=>Gl.eq_2 ..
abbrev z1l {n b a1 c}:=li (Gs n b a1 c) (fun d=>⟨[(7,.ptr 7 0),(8,.ptr 8 0),(16,.sl 1 (a1.map aI)),(17,aI (((a1.map aI).length:Int))),(18,aI d.1)],[(7,.box 44 [.row 7014]),(8,.box 332 [.fn 284 [.ptr 7 0,.ref [.fn 241 [.ref (Ao b)]],.ptr 8 0]]),(7014,.row 4 1 (d.2.map AV.bool))]⟩) fun _ _=>Gs.eq_2 ..
abbrev z42 {n a0 b}:=li (J5 n a0 b) (fun c=>⟨[(1,.ptr 1 0),(3,.row 7020),(7,.sl 17 (a0.fEdges.map A7)),(8,aI (((a0.fEdges.map A7).length:Int))),(9,aI c.1)],[(1,.box 26 (Ao a0)),(7020,.row 3 1 (c.2.map aI))]⟩) fun _ _=>J5.eq_2 ..
abbrev z82 {n a0 b}:=li (N1 n a0 b) (fun c=>⟨[(3,.row 6),(7,.sl 1 (a0.map aI)),(8,aI (((a0.map aI).length:Int))),(9,aI c.1)],[(6,.mp (List.map (encM aI AV.bool) (c.2)))]⟩) fun _ _=>N1.eq_2 ..
abbrev z5z {n a0 x3 x4 b}:=li (G4 n a0 x3 x4 b) (fun c=>⟨[(2,.ptr 2 0),(7,.ptr 7 0),(8,.mapv (List.map (encM aI AV.bool) (x4))),(28,.sl 17 (a0.fEdges.map A7)),(29,aI (((a0.fEdges.map A7).length:Int))),(30,aI c.1)],[(2,.box 119 [.mapv [],.mapv []]),(7,.box 119 [.mapv (List.map (encM aI AV.bool) (x3)),.row 23]),(23,.mp (List.map (encM aI AV.bool) (c.2)))]⟩) fun _ _=>G4.eq_2 ..
attribute [instance] z3u z4t z3r z34 z07 z1l z42 z82 z5z
instance z8p {n a0 a1}:CI E0 (Oh n a0 a1) false 240 [aI a0,.ref (Ao a1)] (fun r=>.sl 1 (r.map aI)):=⟨fun {r} hF=>by
 unfold Oh at hF
 refine cw Tryz.func240 ?_
 repeat' first
  |refine aG hF fun hF=>?_
  |refine aC [6] ?_;conv=>whnf
  |refine aN hF (fun hF=>?_) fun hF=>?_
  |refine aO ?_
  |refine aP ?_
  |refine aT hF fun a hF=>?_
  |refine aK hF fun x hF=>?_
  |refine aU hF fun l hF=>?_
  |exact ⟨_,hF,aA [(7027,27)]⟩
  |exact ⟨_,hF,aA []⟩
  |refine aR hF ?_ fun m v hF=>?_
  |exact aE (aQ 4 7027 3 1 rfl rfl) (aA [])
  |refine AndA ?_
  |refine aH ?_
  |exact aB hF⟩
def z5d (a0:Int)(a2bc0:A8)(m0:(List Bool)):List (Nat×Ent):=[(100000,.box 44 [.row 200000]),(200000,.row 4 1 (m0.map AV.bool)),(100001,.box 332 [.fn 284 [.ptr 100000 0,.ref [.fn 240 [.ref (Ao a2bc0)]],.ptr 100001 0]])]
def Ja (a2bc0:A8)(r:(List Bool)):List (Nat×Ent):=[(100000,.box 44 [.row 250000]),(250000,.row 4 1 (r.map AV.bool)),(100001,.box 332 [.fn 284 [.ptr 100000 0,.ref [.fn 240 [.ref (Ao a2bc0)]],.ptr 100001 0]])]
def M6 (r:(List Bool)):AV:=.tup []
def z5c (a2bc0:A8)(r:(List Bool)):AS:=⟨[(1,.ptr 100000 0),(3,.ptr 100001 0)],Ja a2bc0 r⟩
theorem Z4 {n a0 a2bc0 m0 r}(hF:Ey n a0 a2bc0 m0=some r):ConG E0.P none (CalF E0.P 284 0) [aI a0,.ptr 100000 0,.ref [.fn 240 [.ref (Ao a2bc0)]],.ptr 100001 0] [] (z5d a0 a2bc0 m0) (M6 r) (Ja a2bc0 r):=by
 induction n generalizing a0 a2bc0 m0 r
 case zero=>cases hF
 case succ n ih =>
 unfold Ey at hF
 refine aL (E:=(E0p 4)) (caps:=[]) _ aD rfl rfl rfl rfl rfl ?_
 repeat' first
  |refine aF ?_;conv=>whnf
  |refine aN hF (fun hF=>?_) fun hF=>?_
  |refine aO ?_
  |refine aP ?_
  |refine NatX.o hF (fun m hF=>?_)
  |refine EltX.o AV.bool hF (fun x hF=>?_)
  |refine GX.o (res:=M6) (meF:=(Ja a2bc0)) hF ?_;exact GX.mk (z5c a2bc0 _) (aA [(250000,200000)]) rfl _ rfl (by repeat' first|exact Sub.nil _|exact Sub.refl _|refine Sub.agg ?_|refine Sub.tup ?_|refine Sub.fn ?_|exact SubL.nil|refine SubL.cons ?_ ?_|refine Sub.sl _ ?_|exact SubE.nil|refine SubE.cons ?_ ?_) [] trivial rfl
  |refine SetX.o AV.bool hF (fun x=>rfl) (fun x=>(by first|exact aM _|(repeat' first|exact SubL.nil|refine SubL.cons ?_ ?_|exact Sub.refl _|exact Sub.nil _|refine Sub.agg ?_))) (fun l hF=>?_)
  |refine aT hF fun a hF=>?_
  |refine aK hF fun x hF=>?_
  |refine aW (Bb 24 hF) [(100000,100000),(100001,100001),(200000,200000)] [(100000,100000),(250000,25000001),(100001,100001)] _ _ (Ja a2bc0) M6 [200000] (fun a h=>aJ (ih h)) (B1 aD rfl rfl) rfl rfl rfl ⟨⟨rfl,rfl⟩,⟨⟨rfl,rfl⟩,⟨⟨rfl,rfl⟩,trivial⟩⟩⟩ (fun a=>⟨rfl,rfl,rfl,rfl,rfl,rfl,rfl,rfl⟩) (fun a hF=>?_)
  |refine bX (Bb 24 hF) [(100000,100000),(100001,100001),(200000,200000)] [(100000,100000),(250000,25000001),(100001,100001)] _ _ (Ja a2bc0) M6 [200000] (fun a h=>aJ (ih h)) (B1 aD rfl rfl) rfl rfl rfl ⟨⟨rfl,rfl⟩,⟨⟨rfl,rfl⟩,⟨⟨rfl,rfl⟩,trivial⟩⟩⟩ (fun a=>⟨rfl,rfl,rfl,rfl,rfl,rfl,rfl,rfl⟩) (fun a hF=>?_)
  |exact ⟨_,hF,aA [(200000,25000001)]⟩
  |refine aR hF (aA []) fun m v hF=>?_
  |refine AndA ?_
  |refine aH ?_
instance zea {n a0 a1 b}:CI E0 (Ji n a0 a1 b) false 239 [B4 a0,.sl 1 (a1.map aI),.fn 240 [.ref (Ao b)]] (fun r=>.sl 1 (r.map AV.bool)):=⟨fun {r} hF=>by
 unfold Ji at hF
 refine cw bP ?_
 repeat' first
  |refine aG hF fun hF=>?_
  |refine aY hF 5 rfl (fun hF=>?_)
  |refine aC [7] ?_;conv=>whnf
  |refine aN hF (fun hF=>?_) fun hF=>?_
  |refine aO ?_
  |refine aP ?_
  |refine MakX.o AV.bool hF (by first|exact aM _|(repeat' first|exact SubL.nil|refine SubL.cons ?_ ?_|exact Sub.refl _|exact Sub.nil _|refine Sub.agg ?_)) (fun l hF=>?_)
  |refine aK hF fun x hF=>?_
  |refine aW (Bb 24 hF) [(100000,7),(100001,8),(200000,7014)] [(100000,7),(250000,25000001),(100001,8)] _ _ (Ja b) M6 [7014] (fun a h=>aJ (Z4 h)) (B1 aD rfl rfl) rfl rfl rfl ⟨⟨rfl,rfl⟩,⟨⟨rfl,rfl⟩,⟨⟨rfl,rfl⟩,trivial⟩⟩⟩ (fun a=>⟨rfl,rfl,rfl,rfl,rfl,rfl,rfl,rfl⟩) (fun a hF=>?_)
  |refine bX (Bb 24 hF) [(100000,7),(100001,8),(200000,7014)] [(100000,7),(250000,25000001),(100001,8)] _ _ (Ja b) M6 [7014] (fun a h=>aJ (Z4 h)) (B1 aD rfl rfl) rfl rfl rfl ⟨⟨rfl,rfl⟩,⟨⟨rfl,rfl⟩,⟨⟨rfl,rfl⟩,trivial⟩⟩⟩ (fun a=>⟨rfl,rfl,rfl,rfl,rfl,rfl,rfl,rfl⟩) (fun a hF=>?_)
  |exact ⟨_,hF,aA [(7014,25000001)]⟩
  |refine aR hF ?_ fun m v hF=>?_
  |exact aE (LeX.frb 5 rfl rfl) (aA [(7014,14)])
  |refine AndA ?_
  |refine aH ?_
  |exact aB hF⟩
instance zaa {n a0}:CI E0 (Ov n a0) false 184 [B4 a0] (fun r=>.sl 1 (r.map AV.bool)):=⟨fun {r} hF=>by
 unfold Ov at hF
 refine cw Tryz.func184 ?_
 repeat' first
  |refine AW.frbO hF 1 rfl rfl (fun hF=>?_)
  |refine aG hF fun hF=>?_
  |refine aY hF 1 rfl (fun hF=>?_)
  |refine aC [1] ?_;conv=>whnf
  |refine aN hF (fun hF=>?_) fun hF=>?_
  |refine aO ?_
  |refine aP ?_
  |refine aT hF fun a hF=>?_
  |refine AndA ?_
  |refine aH ?_
  |exact aB hF⟩
instance zch {n a0}:CI E0 (Pd n a0) false 183 [.sl 1 (a0.map AV.bool)] (fun r=>.sl 1 (r.map aI)):=⟨fun {r} hF=>by
 unfold Pd at hF
 refine cw Tryz.func183 ?_
 repeat' first
  |refine aG hF fun hF=>?_
  |refine aC [5] ?_;conv=>whnf
  |refine aN hF (fun hF=>?_) fun hF=>?_
  |refine aO ?_
  |refine aP ?_
  |refine aK hF fun x hF=>?_
  |refine aU hF fun l hF=>?_
  |exact ⟨_,hF,aA [(7017,17)]⟩
  |exact ⟨_,hF,aA []⟩
  |refine aR hF ?_ fun m v hF=>?_
  |exact aE (aQ 3 7017 3 1 rfl rfl) (aA [])
  |refine AndA ?_
  |refine aH ?_
  |exact aB hF⟩
instance zab {n a0}:CI E0 (J6 n a0) false 112 [B4 a0] (fun r=>.tup [.sl 1 (r.1.map aI),aI r.2]):=by unfold J6;exact aS [] Tryz.func112
instance zau {n a0 a1}:CI E0 (Se n a0 a1) false 241 [aI a0,.ref (Ao a1)] (fun r=>.sl 1 (r.map aI)):=⟨fun {r} hF=>by
 unfold Se at hF
 refine cw Tryz.func241 ?_
 repeat' first
  |refine aG hF fun hF=>?_
  |refine aC [5] ?_;conv=>whnf
  |refine aN hF (fun hF=>?_) fun hF=>?_
  |refine aO ?_
  |refine aP ?_
  |refine aK hF fun x hF=>?_
  |refine aU hF fun l hF=>?_
  |exact ⟨_,hF,aA [(7022,22)]⟩
  |exact ⟨_,hF,aA []⟩
  |refine aR hF ?_ fun m v hF=>?_
  |exact aE (aQ 4 7022 3 1 rfl rfl) (aA [])
  |refine AndA ?_
  |refine aH ?_
  |exact aB hF⟩
def z28 (a0:Int)(a2bc0:A8)(m0:(List Bool)):List (Nat×Ent):=[(100000,.box 44 [.row 200000]),(200000,.row 4 1 (m0.map AV.bool)),(100001,.box 332 [.fn 284 [.ptr 100000 0,.ref [.fn 241 [.ref (Ao a2bc0)]],.ptr 100001 0]])]
def Ia (a2bc0:A8)(r:(List Bool)):List (Nat×Ent):=[(100000,.box 44 [.row 250000]),(250000,.row 4 1 (r.map AV.bool)),(100001,.box 332 [.fn 284 [.ptr 100000 0,.ref [.fn 241 [.ref (Ao a2bc0)]],.ptr 100001 0]])]
def L4 (r:(List Bool)):AV:=.tup []
def z27 (a2bc0:A8)(r:(List Bool)):AS:=⟨[(1,.ptr 100000 0),(3,.ptr 100001 0)],Ia a2bc0 r⟩
theorem Yw {n a0 a2bc0 m0 r}(hF:Eo n a0 a2bc0 m0=some r):ConG E0.P none (CalF E0.P 284 0) [aI a0,.ptr 100000 0,.ref [.fn 241 [.ref (Ao a2bc0)]],.ptr 100001 0] [] (z28 a0 a2bc0 m0) (L4 r) (Ia a2bc0 r):=by
 induction n generalizing a0 a2bc0 m0 r
 case zero=>cases hF
 case succ n ih =>
 unfold Eo at hF
 refine aL (E:=(E0p 4)) (caps:=[]) _ aD rfl rfl rfl rfl rfl ?_
 repeat' first
  |refine aF ?_;conv=>whnf
  |refine aN hF (fun hF=>?_) fun hF=>?_
  |refine aO ?_
  |refine aP ?_
  |refine NatX.o hF (fun m hF=>?_)
  |refine EltX.o AV.bool hF (fun x hF=>?_)
  |refine GX.o (res:=L4) (meF:=(Ia a2bc0)) hF ?_;exact GX.mk (z27 a2bc0 _) (aA [(250000,200000)]) rfl _ rfl (by repeat' first|exact Sub.nil _|exact Sub.refl _|refine Sub.agg ?_|refine Sub.tup ?_|refine Sub.fn ?_|exact SubL.nil|refine SubL.cons ?_ ?_|refine Sub.sl _ ?_|exact SubE.nil|refine SubE.cons ?_ ?_) [] trivial rfl
  |refine SetX.o AV.bool hF (fun x=>rfl) (fun x=>(by first|exact aM _|(repeat' first|exact SubL.nil|refine SubL.cons ?_ ?_|exact Sub.refl _|exact Sub.nil _|refine Sub.agg ?_))) (fun l hF=>?_)
  |refine aT hF fun a hF=>?_
  |refine aK hF fun x hF=>?_
  |refine aW (Bb 24 hF) [(100000,100000),(100001,100001),(200000,200000)] [(100000,100000),(250000,25000001),(100001,100001)] _ _ (Ia a2bc0) L4 [200000] (fun a h=>aJ (ih h)) (B1 aD rfl rfl) rfl rfl rfl ⟨⟨rfl,rfl⟩,⟨⟨rfl,rfl⟩,⟨⟨rfl,rfl⟩,trivial⟩⟩⟩ (fun a=>⟨rfl,rfl,rfl,rfl,rfl,rfl,rfl,rfl⟩) (fun a hF=>?_)
  |refine bX (Bb 24 hF) [(100000,100000),(100001,100001),(200000,200000)] [(100000,100000),(250000,25000001),(100001,100001)] _ _ (Ia a2bc0) L4 [200000] (fun a h=>aJ (ih h)) (B1 aD rfl rfl) rfl rfl rfl ⟨⟨rfl,rfl⟩,⟨⟨rfl,rfl⟩,⟨⟨rfl,rfl⟩,trivial⟩⟩⟩ (fun a=>⟨rfl,rfl,rfl,rfl,rfl,rfl,rfl,rfl⟩) (fun a hF=>?_)
  |exact ⟨_,hF,aA [(200000,25000001)]⟩
  |refine aR hF (aA []) fun m v hF=>?_
  |refine AndA ?_
  |refine aH ?_
instance z9o {n a0 a1 b}:CI E0 (Fn n a0 a1 b) false 239 [B4 a0,.sl 1 (a1.map aI),.fn 241 [.ref (Ao b)]] (fun r=>.sl 1 (r.map AV.bool)):=⟨fun {r} hF=>by
 unfold Fn at hF
 refine cw bP ?_
 repeat' first
  |refine aG hF fun hF=>?_
  |refine aY hF 5 rfl (fun hF=>?_)
  |refine aC [7] ?_;conv=>whnf
  |refine aN hF (fun hF=>?_) fun hF=>?_
  |refine aO ?_
  |refine aP ?_
  |refine MakX.o AV.bool hF (by first|exact aM _|(repeat' first|exact SubL.nil|refine SubL.cons ?_ ?_|exact Sub.refl _|exact Sub.nil _|refine Sub.agg ?_)) (fun l hF=>?_)
  |refine aK hF fun x hF=>?_
  |refine aW (Bb 24 hF) [(100000,7),(100001,8),(200000,7014)] [(100000,7),(250000,25000001),(100001,8)] _ _ (Ia b) L4 [7014] (fun a h=>aJ (Yw h)) (B1 aD rfl rfl) rfl rfl rfl ⟨⟨rfl,rfl⟩,⟨⟨rfl,rfl⟩,⟨⟨rfl,rfl⟩,trivial⟩⟩⟩ (fun a=>⟨rfl,rfl,rfl,rfl,rfl,rfl,rfl,rfl⟩) (fun a hF=>?_)
  |refine bX (Bb 24 hF) [(100000,7),(100001,8),(200000,7014)] [(100000,7),(250000,25000001),(100001,8)] _ _ (Ia b) L4 [7014] (fun a h=>aJ (Yw h)) (B1 aD rfl rfl) rfl rfl rfl ⟨⟨rfl,rfl⟩,⟨⟨rfl,rfl⟩,⟨⟨rfl,rfl⟩,trivial⟩⟩⟩ (fun a=>⟨rfl,rfl,rfl,rfl,rfl,rfl,rfl,rfl⟩) (fun a hF=>?_)
  |exact ⟨_,hF,aA [(7014,25000001)]⟩
  |refine aR hF ?_ fun m v hF=>?_
  |exact aE (LeX.frb 5 rfl rfl) (aA [(7014,14)])
  |refine AndA ?_
  |refine aH ?_
  |exact aB hF⟩
instance zd1 {n a0}:CI E0 (Pk n a0) false 185 [B4 a0] (fun r=>.sl 1 (r.map AV.bool)):=⟨fun {r} hF=>by
 unfold Pk at hF
 refine cw Tryz.func185 ?_
 repeat' first
  |refine AW.frbO hF 1 rfl rfl (fun hF=>?_)
  |refine aG hF fun hF=>?_
  |refine aY hF 7020 rfl (fun hF=>?_)
  |refine aY hF 1 rfl (fun hF=>?_)
  |refine aC [8,5] ?_;conv=>whnf
  |refine aN hF (fun hF=>?_) fun hF=>?_
  |refine aO ?_
  |refine aP ?_
  |refine aT hF fun a hF=>?_
  |refine aK hF fun x hF=>?_
  |refine aU hF fun l hF=>?_
  |exact ⟨_,hF,aA [(7020,20)]⟩
  |exact ⟨_,hF,aA []⟩
  |refine aR hF ?_ fun m v hF=>?_
  |exact aE (aQ 3 7020 3 1 rfl rfl) (aA [])
  |refine AndA ?_
  |refine aH ?_
  |exact aB hF⟩
instance zd6 {n a0}:CI E0 (Je n a0) false 113 [B4 a0] (fun r=>.tup [.sl 1 (r.1.map aI),aI r.2]):=by unfold Je;exact aS [] Tryz.func113
theorem Ck (a b:Int):eqK (aI a) (aI b)=some (decide (a=b)):=by simp [eqK,eq1,aI,Jy]
instance zkz {n a0}:CI E0 (Q8 n a0) false 114 [.sl 1 (a0.map aI)] (fun r=>.mapv (List.map (encM aI AV.bool) (r))):=⟨fun {r} hF=>by
 unfold Q8 at hF
 refine cw Tryz.func114 ?_
 repeat' first
  |refine aF ?_;conv=>whnf
  |refine aN hF (fun hF=>?_) fun hF=>?_
  |refine aO ?_
  |refine aP ?_
  |refine aK hF fun x hF=>?_
  |refine UpX.o aI AV.bool hF (by first|rfl|kernel_rfl) Ck (by repeat' first|exact Sub.nil _|exact Sub.refl _|refine Sub.agg ?_|refine Sub.tup ?_|refine Sub.fn ?_|exact SubL.nil|refine SubL.cons ?_ ?_|refine Sub.sl _ ?_|exact SubE.nil|refine SubE.cons ?_ ?_) (fun l hF=>?_)
  |exact ⟨_,hF,aA []⟩
  |refine aR hF (aA []) fun m v hF=>?_
  |refine AndA ?_
  |refine aH ?_
  |exact aB hF⟩
end
noncomputable section
abbrev z1c {n a3 a2 a1 a0 b c}:=jt (Dp n a3 a2 a1 a0 b c) (fun d=>⟨[(3,.sl 1 (List.map (fun q=>AV.mapv (List.map (encM aI AV.bool) q)) (a3))),(4,.ptr 4 0),(6,.ptr 6 0),(9,.row 13),(10,aI b.1),(12,.bool (d)),(15,aI a1.fScopes),(16,aI b.1)],[(4,.box 119 [.mapv (List.map (encM aI AV.bool) (a0.freachable)),.mapv (List.map (encM aI AV.bool) (a0.finner))]),(6,.box 149 (Bt a2)),(13,.mp (List.map (encM aI AV.bool) (b.2)))]⟩) fun _=>Dp.eq_1 ..
abbrev z1d {n a3 a2 a1 a0 b c d}:=jt (E9 n a3 a2 a1 a0 b c d) (fun e=>⟨[(3,.sl 1 (List.map (fun q=>AV.mapv (List.map (encM aI AV.bool) q)) (a3))),(4,.ptr 4 0),(6,.ptr 6 0),(9,.row 13),(10,aI b.1),(11,.bool (d)),(12,.bool (e)),(15,aI a1.fScopes),(16,aI b.1)],[(4,.box 119 [.mapv (List.map (encM aI AV.bool) (a0.freachable)),.mapv (List.map (encM aI AV.bool) (a0.finner))]),(6,.box 149 (Bt a2)),(13,.mp (List.map (encM aI AV.bool) (b.2)))]⟩) fun _=>E9.eq_1 ..
abbrev z1b {n a3 a2 a1 a0 b}:=li (Cw n a3 a2 a1 a0 b) (fun c=>⟨[(3,.sl 1 (List.map (fun q=>AV.mapv (List.map (encM aI AV.bool) q)) (a3))),(4,.ptr 4 0),(6,.ptr 6 0),(9,.row 13),(15,aI a1.fScopes),(16,aI c.1)],[(4,.box 119 [.mapv (List.map (encM aI AV.bool) (a0.freachable)),.mapv (List.map (encM aI AV.bool) (a0.finner))]),(6,.box 149 (Bt a2)),(13,.mp (List.map (encM aI AV.bool) (c.2)))]⟩) fun _ _=>Cw.eq_2 ..
abbrev z5h {n a1 b}:=li (Jd n a1 b) (fun c=>⟨[(1,.mapv (List.map (encM aI AV.bool) (a1))),(5,.row 7),(9,.ptr 9 0)],[(9,.it (List.map (encM aI AV.bool) (c.1))),(7,.mp (List.map (encM aI AV.bool) (c.2)))]⟩) fun _ _=>Jd.eq_2 ..
abbrev z0q {n a1 a0 b d c}:=jf (Dc n a1 a0 b d c) (fun e=>⟨[(2,.ptr 2 0),(3,.ptr 3 0),(5,.row 15),(8,.bool (b.1)),(10,.ptr 10 0),(40,.sl 17 (a1.fEdges.map A7)),(41,aI (((a1.fEdges.map A7).length:Int))),(42,aI b.2.1),(64,.bool (e))],[(2,.box 119 [.mapv (List.map (encM aI AV.bool) (a0.freachable)),.mapv (List.map (encM aI AV.bool) (a0.finner))]),(3,.box 26 (Ao a1)),(10,.box 149 (Bt c)),(15,.row 112 1 (List.map (fun q=>AV.mapv (List.map (encM aI AV.bool) q)) (b.2.2)))]⟩) fun _=>Dc.eq_1 ..
abbrev z0n {n a1 a0 c}:=li (Cv n a1 a0 c) (fun b=>⟨[(2,.ptr 2 0),(3,.ptr 3 0),(5,.row 15),(8,.bool (b.1)),(40,.sl 17 (a1.fEdges.map A7)),(41,aI (((a1.fEdges.map A7).length:Int))),(42,aI b.2.1)],[(2,.box 119 [.mapv (List.map (encM aI AV.bool) (a0.freachable)),.mapv (List.map (encM aI AV.bool) (a0.finner))]),(3,.box 26 (Ao a1)),(15,.row 112 1 (List.map (fun q=>AV.mapv (List.map (encM aI AV.bool) q)) (b.2.2)))]⟩) fun _ _=>Cv.eq_2 ..
abbrev z0o {n a1 a0 b}:=li (Dn n a1 a0 b) (fun c=>⟨[(2,.ptr 2 0),(3,.ptr 3 0),(5,.row 15),(8,.bool (c.1))],[(2,.box 119 [.mapv (List.map (encM aI AV.bool) (a0.freachable)),.mapv (List.map (encM aI AV.bool) (a0.finner))]),(3,.box 26 (Ao a1)),(15,.row 112 1 (List.map (fun q=>AV.mapv (List.map (encM aI AV.bool) q)) (c.2)))]⟩) fun _ _=>Dn.eq_2 ..
abbrev z0m {n a1 a0 d b e f}:=li (Kr n a1 a0 d b e f) (fun c=>⟨[(2,.ptr 2 0),(3,.ptr 3 0),(5,.cont (d.1) 15),(6,aI b.1),(18,.ptr 18 0),(28,aI a1.fScopes),(29,aI c.1)],[(2,.box 119 [.mapv (List.map (encM aI AV.bool) (a0.freachable)),.mapv (List.map (encM aI AV.bool) (a0.finner))]),(3,.box 26 (Ao a1)),(15,.are 112 (c.2).1 (List.map (enO aI AV.bool) (c.2).2)),(18,.itc (encM aI AV.bool b) (List.map (encM aI AV.bool) (e)))]⟩) fun _ _=>Kr.eq_2 ..
abbrev z0p {n a1 a0 c}:=li (I3 n a1 a0 c) (fun b=>⟨[(2,.ptr 2 0),(3,.ptr 3 0),(5,.cont (b.1) 15),(18,.ptr 18 0)],[(2,.box 119 [.mapv (List.map (encM aI AV.bool) (a0.freachable)),.mapv (List.map (encM aI AV.bool) (a0.finner))]),(3,.box 26 (Ao a1)),(15,.are 112 (b.2.1).1 (List.map (enO aI AV.bool) (b.2.1).2)),(18,.it (List.map (encM aI AV.bool) (b.2.2)))]⟩) fun _ _=>I3.eq_2 ..
abbrev z48 {n b a0 c}:=li (Lz n b a0 c) (fun d=>⟨[(3,.row 7016),(6,.sl 8 (a0.map idA)),(7,aI (((a0.map idA).length:Int))),(8,aI d.1)],[(7016,.row 146 8 (d.2.map idA))]⟩) fun _ _=>Lz.eq_2 ..
abbrev z0u {n a0 b}:=li (Kt n a0 b) (fun c=>⟨[(3,.row 7016),(6,.sl 8 (a0.map idA)),(7,aI (((a0.map idA).length:Int))),(8,aI c.1)],[(7016,.row 146 8 (c.2.map idA))]⟩) fun _ _=>Kt.eq_2 ..
attribute [instance] z1c z1d z1b z5h z0q z0n z0o z0m z0p z48 z0u
instance zhd {n a0}:CI E0 (G6 n a0) false 54 [B4 a0] (fun r=>.agg [.mapv (List.map (encM aI AV.bool) (r.freachable)),.mapv (List.map (encM aI AV.bool) (r.finner))]):=⟨fun {r} hF=>by
 unfold G6 at hF
 refine cw Tryz.func54 ?_
 repeat' first
  |refine aG hF fun hF=>?_
  |refine aC [8] ?_;conv=>whnf
  |refine aN hF (fun hF=>?_) fun hF=>?_
  |refine aO ?_
  |refine aP ?_
  |refine aT hF fun a hF=>?_
  |refine aK hF fun x hF=>?_
  |refine bG aI AV.bool hF Ck rfl rfl rfl rfl rfl rfl rfl rfl rfl rfl (by first|rfl|kernel_rfl) (by repeat' first|exact Sub.nil _|exact Sub.refl _|refine Sub.agg ?_|refine Sub.tup ?_|refine Sub.fn ?_|exact SubL.nil|refine SubL.cons ?_ ?_|refine Sub.sl _ ?_|exact SubE.nil|refine SubE.cons ?_ ?_) (fun v b hF=>?_)
  |refine UpX.o aI AV.bool hF (by first|rfl|kernel_rfl) Ck (by repeat' first|exact Sub.nil _|exact Sub.refl _|refine Sub.agg ?_|refine Sub.tup ?_|refine Sub.fn ?_|exact SubL.nil|refine SubL.cons ?_ ?_|refine Sub.sl _ ?_|exact SubE.nil|refine SubE.cons ?_ ?_) (fun l hF=>?_)
  |exact ⟨_,hF,aA []⟩
  |refine aR hF (aA []) fun m v hF=>?_
  |refine AndA ?_
  |refine aH ?_
  |exact aB hF⟩
def Z3 (r:(List (Int×Bool))):AV:=.mapv (List.map (encM aI AV.bool) (r))
theorem z1k {n a0 a1 a2 a3 r}(hF:Oq n a0 a1 a2 a3=some r):Con E0 true 116 [.agg [.mapv (List.map (encM aI AV.bool) (a0.freachable)),.mapv (List.map (encM aI AV.bool) (a0.finner))],B4 a1,A7 a2,.sl 1 (List.map (fun q=>AV.mapv (List.map (encM aI AV.bool) q)) (a3))] (Z3 r):=by
 unfold Oq at hF
 refine ConF.walk _ bQ rfl (B1 bQ rfl rfl) rfl ?_
 repeat' first
  |refine AW.jI2 hF (fun v hF=>?_) fun hF=>?_
  |refine aG hF fun hF=>?_
  |refine aC [7,8,9,10,11] ?_;conv=>whnf
  |refine aN hF (fun hF=>?_) fun hF=>?_
  |refine aO ?_
  |refine aP ?_
  |refine aT hF fun a hF=>?_
  |refine UpX.o aI AV.bool hF (by first|rfl|kernel_rfl) Ck (by repeat' first|exact Sub.nil _|exact Sub.refl _|refine Sub.agg ?_|refine Sub.tup ?_|refine Sub.fn ?_|exact SubL.nil|refine SubL.cons ?_ ?_|refine Sub.sl _ ?_|exact SubE.nil|refine SubE.cons ?_ ?_) (fun l hF=>?_)
  |exact ⟨_,hF,aA []⟩
  |refine bG aI AV.bool hF Ck rfl rfl rfl rfl rfl rfl rfl rfl rfl rfl (by first|rfl|kernel_rfl) (by repeat' first|exact Sub.nil _|exact Sub.refl _|refine Sub.agg ?_|refine Sub.tup ?_|refine Sub.fn ?_|exact SubL.nil|refine SubL.cons ?_ ?_|refine Sub.sl _ ?_|exact SubE.nil|refine SubE.cons ?_ ?_) (fun v b hF=>?_)
  |refine IdxX.o (fun q=>AV.mapv (List.map (encM aI AV.bool) q)) hF fun x hF=>?_
  |refine aR hF (aA []) fun m v hF=>?_
  |refine AndA ?_
  |refine aH ?_
  |refine FX.o (en:=fun r=>List.map (encM aI AV.bool) r) hF ?_;exact FX.mk _ 13 (LeX.refl _ _ _) rfl rfl (zj5 (fun _=>rfl) (fun _=>rfl)) (Or.inl rfl)
instance zgw {n a0 a1}:CI E0 (Mx n a0 a1) false 115 [.mapv (List.map (encM aI AV.bool) (a0)),.mapv (List.map (encM aI AV.bool) (a1))] (fun r=>.mapv (List.map (encM aI AV.bool) (r))):=⟨fun {r} hF=>by
 unfold Mx at hF
 refine cw Tryz.func115 ?_
 repeat' first
  |refine AW.frsO AV.bool hF 7 rfl (fun hF=>?_)
  |refine bR (encM aI AV.bool) hF 9 rfl (fun x s hF=>?_)
  |refine aG hF fun hF=>?_
  |refine aY hF 7 rfl (fun hF=>?_)
  |refine aC [7,5,4] ?_;conv=>whnf
  |refine aN hF (fun hF=>?_) fun hF=>?_
  |refine aO ?_
  |refine aP ?_
  |refine bS rfl rfl rfl rfl rfl rfl rfl rfl ?_
  |refine bT (encM aI AV.bool) hF rfl rfl rfl rfl rfl (fun hF=>?_) (fun hF=>?_)
  |refine bU rfl rfl rfl rfl rfl ?_
  |refine bG aI AV.bool hF Ck rfl rfl rfl rfl rfl rfl rfl rfl rfl rfl (by first|rfl|kernel_rfl) (by repeat' first|exact Sub.nil _|exact Sub.refl _|refine Sub.agg ?_|refine Sub.tup ?_|refine Sub.fn ?_|exact SubL.nil|refine SubL.cons ?_ ?_|refine Sub.sl _ ?_|exact SubE.nil|refine SubE.cons ?_ ?_) (fun v b hF=>?_)
  |refine UpX.o aI AV.bool hF (by first|rfl|kernel_rfl) Ck (by repeat' first|exact Sub.nil _|exact Sub.refl _|refine Sub.agg ?_|refine Sub.tup ?_|refine Sub.fn ?_|exact SubL.nil|refine SubL.cons ?_ ?_|refine Sub.sl _ ?_|exact SubE.nil|refine SubE.cons ?_ ?_) (fun l hF=>?_)
  |exact ⟨_,hF,aE (bV 9 rfl) (aA [])⟩
  |refine aR hF (aA []) fun m v hF=>?_
  |refine AndA ?_
  |refine aH ?_
  |exact aB hF⟩
instance z8n {n a0 a1}:CI E0 (Iq n a0 a1) false 55 [.agg [.mapv (List.map (encM aI AV.bool) (a0.freachable)),.mapv (List.map (encM aI AV.bool) (a0.finner))],B4 a1] (fun r=>.sl 1 (List.map (fun q=>AV.mapv (List.map (encM aI AV.bool) q)) (r))):=⟨fun {r} hF=>by
 unfold Iq at hF
 refine cw Tryz.func55 ?_
 repeat' first
  |refine AW.areO aI AV.bool hF 15 rfl (fun hF=>?_)
  |refine AW.froO aI AV.bool hF 15 rfl (fun hF=>?_)
  |refine AW.jI hF (fun v hF=>?_) fun hF=>?_
  |refine bR (encM aI AV.bool) hF 18 rfl (fun x s hF=>?_)
  |refine aG hF fun hF=>?_
  |refine aC [17,19,11,4,2] ?_;conv=>whnf
  |refine aN hF (fun hF=>?_) fun hF=>?_
  |refine aO ?_
  |refine aP ?_
  |refine MakX.om hF (fun m hF=>?_)
  |refine bS rfl rfl rfl rfl rfl rfl rfl rfl ?_
  |exact ⟨_,hF,aE (bV 18 rfl) (aA [])⟩
  |exact ⟨_,hF,aA []⟩
  |refine aK hF fun x hF=>?_
  |refine NatX.o hF (fun m hF=>?_)
  |refine EltX.o (fun q=>AV.mapv (List.map (encM aI AV.bool) q)) hF (fun x hF=>?_)
  |refine B3.o hF Z3 (fun a h=>z1k h) (fun _=>Or.inl rfl) (fun a hF=>?_)
  |refine aT hF fun a hF=>?_
  |refine OpX.lnv rfl rfl rfl rfl rfl rfl ?_
  |refine SetX.o (fun q=>AV.mapv (List.map (encM aI AV.bool) q)) hF (fun x=>rfl) (fun x=>(by first|exact aM _|(repeat' first|exact SubL.nil|refine SubL.cons ?_ ?_|exact Sub.refl _|exact Sub.nil _|refine Sub.agg ?_))) (fun l hF=>?_)
  |refine bG aI AV.bool hF Ck rfl rfl rfl rfl rfl rfl rfl rfl rfl rfl (by first|rfl|kernel_rfl) (by repeat' first|exact Sub.nil _|exact Sub.refl _|refine Sub.agg ?_|refine Sub.tup ?_|refine Sub.fn ?_|exact SubL.nil|refine SubL.cons ?_ ?_|refine Sub.sl _ ?_|exact SubE.nil|refine SubE.cons ?_ ?_) (fun v b hF=>?_)
  |refine aR hF (aA []) fun m v hF=>?_
  |refine bT (encM aI AV.bool) hF rfl rfl rfl rfl rfl (fun hF=>?_) (fun hF=>?_)
  |refine bU rfl rfl rfl rfl rfl ?_
  |refine OpX.ixc hF rfl rfl rfl rfl rfl rfl rfl rfl (fun hF=>?_)
  |refine OpX.ast aI AV.bool hF rfl rfl rfl rfl rfl rfl rfl rfl rfl rfl rfl (fun m hF=>?_)
  |refine OpX.aob hF rfl rfl rfl rfl rfl rfl rfl (fun j hF=>?_)
  |refine OpX.aup AV.bool hF (Or.inl rfl) rfl rfl rfl rfl rfl rfl rfl rfl rfl (by first|rfl|kernel_rfl) rfl rfl (fun l hF=>?_)
  |refine AndA ?_
  |refine aH ?_
  |exact aB hF⟩
def Z9 (r:(List AV)):AV:=.sl 8 (r.map idA)
theorem z4s {n:Nat}{b:Ak->Option (Ak)}{a0:(List AV)}{r:(List AV)}(ih:∀ {a0:Ak} {r:Ak},b a0=some r->Con E0 false 186 [Ah a0] ((Ah r)))(hF:Si n b a0=some r):Con E0 false 187 [.sl 8 (a0.map idA)] (Z9 r):=by
 unfold Si at hF
 refine Con.walk _ aZ rfl (B1 aZ rfl rfl) rfl (Or.inl rfl) ?_
 repeat' first
  |refine aF ?_;conv=>whnf
  |refine aN hF (fun hF=>?_) fun hF=>?_
  |refine aO ?_
  |refine aP ?_
  |refine cB hF De (fun x hF=>?_)
  |refine Ad.o hF (fun r=>.agg [aI (r.fOp),.sl 8 (r.fArgs.map idA),aI (r.fVar),aI (r.fField),aI (r.fKind),aI (r.fValue.fKind),aI (r.fValue.fNum),.str (r.fValue.fText)]) (fun a h=>ih h) (fun a hF=>?_)
  |refine aU hF fun l hF=>?_
  |exact ⟨_,hF,aA [(7016,16)]⟩
  |refine aR hF ?_ fun m v hF=>?_
  |exact aE (aQ 3 7016 146 8 rfl rfl) (aA [])
  |refine AndA ?_
  |refine aH ?_
  |exact aB hF
theorem z3q {n a0 r}(hF:F4 n a0=some r):Con E0 false 186 [Ah a0] ((Ah r)):=by
 induction n generalizing a0 r
 case zero=>cases hF
 case succ n ih =>
 unfold F4 at hF
 refine cw Tryz.func186 ?_
 repeat' first
  |refine aF ?_;conv=>whnf
  |refine aN hF (fun hF=>?_) fun hF=>?_
  |refine aO ?_
  |refine aP ?_
  |refine Ad.o hF Z9 (fun a h=>z4s ih h) (fun a hF=>?_)
  |refine AndA ?_
  |refine aH ?_
  |exact aB hF
instance zd5 {n a0}:CI E0 (F4 n a0) false 186 [Ah a0] Ah:=⟨z3q⟩
instance z8q {n a0}:CI E0 (Rl n a0) false 187 [.sl 8 (a0.map idA)] (fun r=>.sl 8 (r.map idA)):=⟨fun {r} hF=>by
 unfold Rl at hF
 refine cw aZ ?_
 repeat' first
  |refine aF ?_;conv=>whnf
  |refine aN hF (fun hF=>?_) fun hF=>?_
  |refine aO ?_
  |refine aP ?_
  |refine cB hF De (fun x hF=>?_)
  |refine aT hF fun a hF=>?_
  |refine aU hF fun l hF=>?_
  |exact ⟨_,hF,aA [(7016,16)]⟩
  |refine aR hF ?_ fun m v hF=>?_
  |exact aE (aQ 3 7016 146 8 rfl rfl) (aA [])
  |refine AndA ?_
  |refine aH ?_
  |exact aB hF⟩
set_option maxHeartbeats 400000 in
theorem zcp (l:List (Cel 1))(S:Nat->Prop)(v:Value)(w:World)(h:Sl w S 1 encC v l)(hl:l.length<=1000000000) :
  Calls bE 188 #[v] w (Yh 3 1 encC l w):=by
 have eok:EOk bE 43 3 1 8 (encC (n:=1)):=eokC (sz:=1) (Un 43 _ rfl) rfl (Un 3 _ rfl) (by omega) rfl
 obtain ⟨A,c,rfl,hc,_⟩:=h.form
 have hq:=fun (W:World)=>Lib.run_eql_slice_nil W 43 3 A l.length c 0 0 Tryz.underlying43
 have H:=hide h
 cases A with
 |none =>
  have h0:l=[]:=h.none_nil
  subst h0
  clear h H hl hc
  simp only [length_nil,Option.isNone_none] at hq ⊢
  go_enter bA,bH
  go_wp2
  go_ret
  exact ⟨none,0,rfl,Own.nil_,by go_grown⟩
 |some ad =>
  clear h
  go_enter bA,bH
  go_wp2_with (at_builtin;refine Zc rfl _ _ rfl eok rfl Own.made_ rfl (H.out.alloc _) (by simp;omega) (by omega) (by simp) ?_;intro A' c' w1 ho hg _)
  go_ret
  exact ⟨A',c',rfl,ho,(Own.made_ (sz:=1) (enc:=encC (n:=1))).grown ((Below.refl _ _).alloc (aV _) _) (aV _) (by simp) hg⟩
theorem zae {n a r}(hF:E1 n a=some r):ConT E0 188 [.sl 1 (List.map aI a)] 3 1 (List.map aI r) (.row 0):=zcn rfl (B1 bA rfl rfl) zcp hF
theorem zcg {n a r}(hF:E1 n a=some r):Con E0 false 188 [.sl 1 (List.map aI a)] (.sl 1 (List.map aI r)):=(zae hF).close rfl
end
noncomputable section
abbrev z4u {n a0 x3 b}:=li (M5 n a0 x3 b) (fun c=>⟨[(2,.ptr 2 0),(7,.row 7037),(23,.sl 1 (x3.map aI)),(24,aI (((x3.map aI).length:Int))),(25,aI c.1)],[(2,.box 26 (Ao a0)),(7037,.row 149 17 (c.2.map A7))]⟩) fun _ _=>M5.eq_2 ..
abbrev z0l {n b a0 c}:=li (Kq n b a0 c) (fun d=>⟨[(0,.sl 2 (a0.map Bj)),(1,.fn 191 [.ref [aI b]]),(7,aI (((a0.map Bj).length:Int))),(8,aI d)],[]⟩) fun _ _=>Kq.eq_2 ..
abbrev z61 {n a0 x1}:=jf (Hh n a0 x1) (fun b=>⟨[(2,.ptr 2 0),(6,aI x1),(18,.bool (b))],[(2,.box 149 (Bt a0))]⟩) fun _=>Hh.eq_1 ..
abbrev z76 {n a0 b d f e}:=li (Jm n a0 b d f e) (fun c=>⟨[(0,.sl 17 (a0.map A7)),(6,aI b.1),(7,.bool (b.2.1)),(8,aI d.1),(9,aI c.1),(10,.bool (c.2.1)),(16,.ptr 16 0),(21,.sl 17 (a0.map A7)),(22,aI (((a0.map A7).length:Int))),(23,aI c.2.2)],[(16,.itc (encM aI AV.bool d) (List.map (encM aI AV.bool) (f)))]⟩) fun _ _=>Jm.eq_2 ..
abbrev z77 {n a0 c}:=li (G5 n a0 c) (fun b=>⟨[(0,.sl 17 (a0.map A7)),(6,aI b.1),(7,.bool (b.2.1)),(16,.ptr 16 0)],[(16,.it (List.map (encM aI AV.bool) (b.2.2)))]⟩) fun _ _=>G5.eq_2 ..
abbrev z6e {n a0 x2 x3 c}:=li (Jl n a0 x2 x3 c) (fun b=>⟨[(1,.ptr 1 0),(6,.ptr 6 0),(7,.sl 1 (List.map (fun q=>AV.mapv (List.map (encM aI AV.bool) q)) (x3))),(8,.row 26),(9,.row 30),(33,aI (((a0.fStates.map Aj).length:Int))),(34,aI b.1)],[(1,.box 26 (Ao a0)),(6,.box 119 [.mapv (List.map (encM aI AV.bool) (x2.freachable)),.mapv (List.map (encM aI AV.bool) (x2.finner))]),(26,.row 3 1 (b.2.1.map aI)),(30,.row 4 1 (b.2.2.map AV.bool))]⟩) fun _ _=>Jl.eq_2 ..
abbrev z62 {n a1 x1 b}:=li (Sn n a1 x1 b) (fun c=>⟨[(1,aI a1),(6,.sl 1 (x1.1.map aI)),(7,.sl 1 (x1.2.1.map AV.bool)),(9,aI c.1),(20,.ptr 20 0)],[(20,.it (List.map (encM aI AV.bool) (c.2)))]⟩) fun _ _=>Sn.eq_2 ..
abbrev z4q {n c a0 d}:=li (M3 n c a0 d) (fun b=>⟨[(1,.fn 263 [.ptr 100000 0]),(16,.sl 8 (a0.fArgs.map idA)),(17,aI (((a0.fArgs.map idA).length:Int))),(18,aI b.1)],[(100000,.box 318 [.bool (b.2.1),.bool (b.2.2.1),.bool (b.2.2.2.1),.bool (b.2.2.2.2.1),.bool (b.2.2.2.2.2.1),.bool (b.2.2.2.2.2.2.1),.bool (b.2.2.2.2.2.2.2.1),.bool (b.2.2.2.2.2.2.2.2.1),.bool (b.2.2.2.2.2.2.2.2.2.1),.bool (b.2.2.2.2.2.2.2.2.2.2.1),.bool (b.2.2.2.2.2.2.2.2.2.2.2.1),.bool (b.2.2.2.2.2.2.2.2.2.2.2.2.1),.bool (b.2.2.2.2.2.2.2.2.2.2.2.2.2.1),.bool (b.2.2.2.2.2.2.2.2.2.2.2.2.2.2.1),.bool (b.2.2.2.2.2.2.2.2.2.2.2.2.2.2.2.1),.bool (b.2.2.2.2.2.2.2.2.2.2.2.2.2.2.2.2)])]⟩) fun _ _=>M3.eq_2 ..
abbrev z57 {n x1 b}:=li (B7 n x1 b) (fun c=>⟨[(4,.row 7019),(10,.agg [.bool (x1.2.1),.bool (x1.2.2.1),.bool (x1.2.2.2.1),.bool (x1.2.2.2.2.1),.bool (x1.2.2.2.2.2.1),.bool (x1.2.2.2.2.2.2.1),.bool (x1.2.2.2.2.2.2.2.1),.bool (x1.2.2.2.2.2.2.2.2.1),.bool (x1.2.2.2.2.2.2.2.2.2.1),.bool (x1.2.2.2.2.2.2.2.2.2.2.1),.bool (x1.2.2.2.2.2.2.2.2.2.2.2.1),.bool (x1.2.2.2.2.2.2.2.2.2.2.2.2.1),.bool (x1.2.2.2.2.2.2.2.2.2.2.2.2.2.1),.bool (x1.2.2.2.2.2.2.2.2.2.2.2.2.2.2.1),.bool (x1.2.2.2.2.2.2.2.2.2.2.2.2.2.2.2.1),.bool (x1.2.2.2.2.2.2.2.2.2.2.2.2.2.2.2.2)]),(11,aI c.1)],[(7019,.row 3 1 (c.2.map aI))]⟩) fun _ _=>B7.eq_2 ..
attribute [instance] z4u z0l z61 z76 z77 z6e z62 z4q z57
set_option maxHeartbeats 400000 in
theorem zco (l:List (Cel 2))(S:Nat->Prop)(v:Value)(w:World)(h:Sl w S 2 encC v l)(hl:l.length<=1000000000) :
  Calls bE 189 #[v] w (Yh 230 2 encC l w):=by
 have eok:EOk bE 147 230 2 16 (encC (n:=2)):=eokC (sz:=2) (Un 147 _ rfl) rfl (Un 230 _ rfl) (by omega) rfl
 obtain ⟨A,c,rfl,hc,_⟩:=h.form
 have hq:=fun (W:World)=>Lib.run_eql_slice_nil W 147 230 A l.length c 0 0 Tryz.underlying147
 have H:=hide h
 cases A with
 |none =>
  have h0:l=[]:=h.none_nil
  subst h0
  clear h H hl hc
  simp only [length_nil,Option.isNone_none] at hq ⊢
  go_enter bB,bI
  go_wp2
  go_ret
  exact ⟨none,0,rfl,Own.nil_,by go_grown⟩
 |some ad =>
  clear h
  go_enter bB,bI
  go_wp2_with (at_builtin;refine Zc rfl _ _ rfl eok rfl Own.made_ rfl (H.out.alloc _) (by simp;omega) (by omega) (by simp) ?_;intro A' c' w1 ho hg _)
  go_ret
  exact ⟨A',c',rfl,ho,(Own.made_ (sz:=2) (enc:=encC (n:=2))).grown ((Below.refl _ _).alloc (aV _) _) (aV _) (by simp) hg⟩
theorem zad {n a r}(hF:E1 n a=some r):ConT E0 189 [.sl 2 (List.map Bj a)] 230 2 (List.map Bj r) (.row 0):=zcn rfl (B1 bB rfl rfl) zco hF
theorem zcf {n a r}(hF:E1 n a=some r):Con E0 false 189 [.sl 2 (List.map Bj a)] (.sl 2 (List.map Bj r)):=(zad hF).close rfl
instance zh2 {n a0}:CI E0 (Px n a0) false 119 [A7 a0] A7:=⟨fun {r} hF=>by
 unfold Px at hF
 refine cw Tryz.func119 ?_
 repeat' first
  |refine aF ?_;conv=>whnf
  |refine aN hF (fun hF=>?_) fun hF=>?_
  |refine aO ?_
  |refine aP ?_
  |refine aT hF fun a hF=>?_
  |refine Ad.o hF (fun q=>AV.sl 1 (List.map aI q)) (fun a h=>zcg h) (fun a hF=>?_)
  |refine Ad.o hF (fun q=>AV.sl 2 (List.map Bj q)) (fun a h=>zcf h) (fun a hF=>?_)
  |refine AndA ?_
  |refine aH ?_
  |exact aB hF⟩
instance zeb {n a0 a1}:CI E0 (Pq n a0 a1) false 56 [B4 a0,aI a1] (fun r=>.tup [.sl 17 (r.1.map A7),aI r.2]):=⟨fun {r} hF=>by
 unfold Pq at hF
 refine cw Tryz.func56 ?_
 repeat' first
  |refine aF ?_;conv=>whnf
  |refine aN hF (fun hF=>?_) fun hF=>?_
  |refine aO ?_
  |refine aP ?_
  |refine aT hF fun a hF=>?_
  |refine aK hF fun x hF=>?_
  |refine aU hF fun l hF=>?_
  |exact ⟨_,hF,aA [(7037,37)]⟩
  |refine aR hF ?_ fun m v hF=>?_
  |exact aE (aQ 7 7037 149 17 rfl rfl) (aA [])
  |refine AndA ?_
  |refine aH ?_
  |exact aB hF⟩
instance zfx {n a0 a1}:CI E0 (So n a0 a1) true 191 [Bj a0,.ref [aI a1]] (fun r=>.bool (r)):=by unfold So;exact aS [] Tryz.func191
instance z8l {n a0 b}:CI E0 (Oe n a0 b) true 190 [.sl 2 (a0.map Bj),.fn 191 [.ref [aI b]]] aI:=by unfold Oe;exact aS [] Tryz.func190
instance zhf {n a0 a1}:CI E0 (Hl n a0 a1) true 120 [A7 a0,aI a1] (fun r=>.tup [aI r.1,.bool (r.2)]):=⟨fun {r} hF=>by
 unfold Hl at hF
 refine cw Tryz.func120 ?_
 repeat' first
  |refine AW.jI hF (fun v hF=>?_) fun hF=>?_
  |refine aG hF fun hF=>?_
  |refine aC [2] ?_;conv=>whnf
  |refine aN hF (fun hF=>?_) fun hF=>?_
  |refine aO ?_
  |refine aP ?_
  |refine B3.I hF (fun a hF=>?_) rfl rfl fun _=>Or.inr rfl
  |refine aK hF fun x hF=>?_
  |exact ⟨_,hF,aA []⟩
  |refine aT hF fun a hF=>?_
  |refine AndA ?_
  |refine aH ?_
  |exact aB hF⟩
instance zjl {n a0 a1}:CI E0 (T4 n a0 a1) true 57 [.sl 17 (a0.map A7),.mapv (List.map (encM aI AV.bool) (a1))] (fun r=>.tup [aI r.1,.bool (r.2)]):=⟨fun {r} hF=>by
 unfold T4 at hF
 refine cw Tryz.func57 ?_
 repeat' first
  |refine bR (encM aI AV.bool) hF 16 rfl (fun x s hF=>?_)
  |refine aG hF fun hF=>?_
  |refine aC [10,12,4] ?_;conv=>whnf
  |refine aN hF (fun hF=>?_) fun hF=>?_
  |refine aO ?_
  |refine aP ?_
  |refine bS rfl rfl rfl rfl rfl rfl rfl rfl ?_
  |refine bT (encM aI AV.bool) hF rfl rfl rfl rfl rfl (fun hF=>?_) (fun hF=>?_)
  |refine bU rfl rfl rfl rfl rfl ?_
  |exact ⟨_,hF,aE (bV 16 rfl) (aA [])⟩
  |exact ⟨_,hF,aA []⟩
  |refine aK hF fun x hF=>?_
  |refine aT hF fun a hF=>?_
  |refine aR hF (aA []) fun m v hF=>?_
  |refine AndA ?_
  |refine aH ?_
  |exact aB hF⟩
instance zj9 {n a0}:CI E0 (F6 n a0) false 15 [B4 a0] (fun r=>.tup [.sl 1 (r.1.map aI),.sl 1 (r.2.1.map AV.bool),aI r.2.2]):=⟨fun {r} hF=>by
 unfold F6 at hF
 refine cw Tryz.func15 ?_
 repeat' first
  |refine aG hF fun hF=>?_
  |refine aC [11] ?_;conv=>whnf
  |refine aN hF (fun hF=>?_) fun hF=>?_
  |refine aO ?_
  |refine aP ?_
  |refine aT hF fun a hF=>?_
  |refine MakX.o aI hF (by first|exact aM _|(repeat' first|exact SubL.nil|refine SubL.cons ?_ ?_|exact Sub.refl _|exact Sub.nil _|refine Sub.agg ?_)) (fun l hF=>?_)
  |refine MakX.o AV.bool hF (by first|exact aM _|(repeat' first|exact SubL.nil|refine SubL.cons ?_ ?_|exact Sub.refl _|exact Sub.nil _|refine Sub.agg ?_)) (fun l hF=>?_)
  |refine NatX.o hF (fun m hF=>?_)
  |refine SetX.o AV.bool hF (fun x=>rfl) (fun x=>(by first|exact aM _|(repeat' first|exact SubL.nil|refine SubL.cons ?_ ?_|exact Sub.refl _|exact Sub.nil _|refine Sub.agg ?_))) (fun l hF=>?_)
  |refine bG aI AV.bool hF Ck rfl rfl rfl rfl rfl rfl rfl rfl rfl rfl (by first|rfl|kernel_rfl) (by repeat' first|exact Sub.nil _|exact Sub.refl _|refine Sub.agg ?_|refine Sub.tup ?_|refine Sub.fn ?_|exact SubL.nil|refine SubL.cons ?_ ?_|refine Sub.sl _ ?_|exact SubE.nil|refine SubE.cons ?_ ?_) (fun v b hF=>?_)
  |refine IdxX.o (fun q=>AV.mapv (List.map (encM aI AV.bool) q)) hF fun x hF=>?_
  |refine SetX.o aI hF (fun x=>rfl) (fun x=>(by first|exact aM _|(repeat' first|exact SubL.nil|refine SubL.cons ?_ ?_|exact Sub.refl _|exact Sub.nil _|refine Sub.agg ?_))) (fun l hF=>?_)
  |exact ⟨_,hF,aA []⟩
  |refine aR hF (aA []) fun m v hF=>?_
  |refine AndA ?_
  |refine aH ?_
  |exact aB hF⟩
instance zhg {n a0 a1}:CI E0 (Sy n a0 a1) true 49 [B4 a0,aI a1] (fun r=>.tup [aI r.1,.bool (r.2)]):=⟨fun {r} hF=>by
 unfold Sy at hF
 refine cw Tryz.func49 ?_
 repeat' first
  |refine bR (encM aI AV.bool) hF 20 rfl (fun x s hF=>?_)
  |refine aG hF fun hF=>?_
  |refine aC [5] ?_;conv=>whnf
  |refine aN hF (fun hF=>?_) fun hF=>?_
  |refine aO ?_
  |refine aP ?_
  |refine aT hF fun a hF=>?_
  |refine bS rfl rfl rfl rfl rfl rfl rfl rfl ?_
  |refine bT (encM aI AV.bool) hF rfl rfl rfl rfl rfl (fun hF=>?_) (fun hF=>?_)
  |refine bU rfl rfl rfl rfl rfl ?_
  |refine aK hF fun x hF=>?_
  |exact ⟨_,hF,aE (bV 20 rfl) (aA [])⟩
  |refine aR hF (aA []) fun m v hF=>?_
  |refine AndA ?_
  |refine aH ?_
  |exact aB hF⟩
def z5t (a0:Ak)(m0:B16):List (Nat×Ent):=[(100000,.box 318 [.bool (m0.1),.bool (m0.2.1),.bool (m0.2.2.1),.bool (m0.2.2.2.1),.bool (m0.2.2.2.2.1),.bool (m0.2.2.2.2.2.1),.bool (m0.2.2.2.2.2.2.1),.bool (m0.2.2.2.2.2.2.2.1),.bool (m0.2.2.2.2.2.2.2.2.1),.bool (m0.2.2.2.2.2.2.2.2.2.1),.bool (m0.2.2.2.2.2.2.2.2.2.2.1),.bool (m0.2.2.2.2.2.2.2.2.2.2.2.1),.bool (m0.2.2.2.2.2.2.2.2.2.2.2.2.1),.bool (m0.2.2.2.2.2.2.2.2.2.2.2.2.2.1),.bool (m0.2.2.2.2.2.2.2.2.2.2.2.2.2.2.1),.bool (m0.2.2.2.2.2.2.2.2.2.2.2.2.2.2.2)])]
def Pg (r:Int×B16):List (Nat×Ent):=[(100000,.box 318 [.bool (r.2.1),.bool (r.2.2.1),.bool (r.2.2.2.1),.bool (r.2.2.2.2.1),.bool (r.2.2.2.2.2.1),.bool (r.2.2.2.2.2.2.1),.bool (r.2.2.2.2.2.2.2.1),.bool (r.2.2.2.2.2.2.2.2.1),.bool (r.2.2.2.2.2.2.2.2.2.1),.bool (r.2.2.2.2.2.2.2.2.2.2.1),.bool (r.2.2.2.2.2.2.2.2.2.2.2.1),.bool (r.2.2.2.2.2.2.2.2.2.2.2.2.1),.bool (r.2.2.2.2.2.2.2.2.2.2.2.2.2.1),.bool (r.2.2.2.2.2.2.2.2.2.2.2.2.2.2.1),.bool (r.2.2.2.2.2.2.2.2.2.2.2.2.2.2.2.1),.bool (r.2.2.2.2.2.2.2.2.2.2.2.2.2.2.2.2)])]
def Sf (r:Int×(Bool×Bool×Bool×Bool×Bool×Bool×Bool×Bool×Bool×Bool×Bool×Bool×Bool×Bool×Bool×Bool)):AV:=aI (r.1)
def z5s (r:Int×B16):AS:=⟨[(3,aI r.1),(1,.ptr 100000 0)],Pg r⟩
theorem Z5 {n a0 m0 r}(hF:Pj n a0 m0=some r):ConG E0.P none (CalF E0.P 263 0) [Ah a0,.ptr 100000 0] [] (z5t a0 m0) (Sf r) (Pg r):=by
 unfold Pj at hF
 refine aL (E:=(E0p 2)) (caps:=[]) _ bC rfl rfl rfl rfl rfl ?_
 repeat' first
  |refine aF ?_;conv=>whnf
  |refine aN hF (fun hF=>?_) fun hF=>?_
  |refine aO ?_
  |refine aP ?_
  |refine aT hF fun a hF=>?_
  |refine NatX.oS hF rfl (fun hF=>?_) (fun hF=>?_)
  |(cases hF;done)
  |exact GX.A (res:=Sf) (meF:=Pg) hF z5s
  |refine AndA ?_
  |refine aH ?_
def z68 (a0:Ak)(m0:B16):List (Nat×Ent):=[(100000,.box 318 [.bool (m0.1),.bool (m0.2.1),.bool (m0.2.2.1),.bool (m0.2.2.2.1),.bool (m0.2.2.2.2.1),.bool (m0.2.2.2.2.2.1),.bool (m0.2.2.2.2.2.2.1),.bool (m0.2.2.2.2.2.2.2.1),.bool (m0.2.2.2.2.2.2.2.2.1),.bool (m0.2.2.2.2.2.2.2.2.2.1),.bool (m0.2.2.2.2.2.2.2.2.2.2.1),.bool (m0.2.2.2.2.2.2.2.2.2.2.2.1),.bool (m0.2.2.2.2.2.2.2.2.2.2.2.2.1),.bool (m0.2.2.2.2.2.2.2.2.2.2.2.2.2.1),.bool (m0.2.2.2.2.2.2.2.2.2.2.2.2.2.2.1),.bool (m0.2.2.2.2.2.2.2.2.2.2.2.2.2.2.2)])]
def Jh (r:Int×B16):List (Nat×Ent):=[(100000,.box 318 [.bool (r.2.1),.bool (r.2.2.1),.bool (r.2.2.2.1),.bool (r.2.2.2.2.1),.bool (r.2.2.2.2.2.1),.bool (r.2.2.2.2.2.2.1),.bool (r.2.2.2.2.2.2.2.1),.bool (r.2.2.2.2.2.2.2.2.1),.bool (r.2.2.2.2.2.2.2.2.2.1),.bool (r.2.2.2.2.2.2.2.2.2.2.1),.bool (r.2.2.2.2.2.2.2.2.2.2.2.1),.bool (r.2.2.2.2.2.2.2.2.2.2.2.2.1),.bool (r.2.2.2.2.2.2.2.2.2.2.2.2.2.1),.bool (r.2.2.2.2.2.2.2.2.2.2.2.2.2.2.1),.bool (r.2.2.2.2.2.2.2.2.2.2.2.2.2.2.2.1),.bool (r.2.2.2.2.2.2.2.2.2.2.2.2.2.2.2.2)])]
def Mh (r:Int×(Bool×Bool×Bool×Bool×Bool×Bool×Bool×Bool×Bool×Bool×Bool×Bool×Bool×Bool×Bool×Bool)):AV:=aI (r.1)
def z67 (r:Int×B16):AS:=⟨[(4,aI r.1),(1,.fn 263 [.ptr 100000 0])],Jh r⟩
theorem Z8 {n a0 m0 r}(hF:Hi n a0 m0=some r):ConG E0.P none (CalF E0.P 237 0) [Ah a0,.fn 263 [.ptr 100000 0]] [] (z68 a0 m0) (Mh r) (Jh r):=by
 induction n generalizing a0 m0 r
 case zero=>cases hF
 case succ n ih =>
 unfold Hi at hF
 refine aL (E:=(E0p 2)) (caps:=[]) _ bD rfl rfl rfl rfl rfl ?_
 repeat' first
  |refine aF ?_;conv=>whnf
  |refine aN hF (fun hF=>?_) fun hF=>?_
  |refine aO ?_
  |refine aP ?_
  |refine aW (Bb 11 hF) [(100000,100000)] [(100000,100000)] _ _ Pg Sf [] (fun a h=>aJ (Z5 h)) (B1 bC rfl rfl) rfl rfl rfl ⟨⟨rfl,rfl⟩,trivial⟩ (fun a=>⟨rfl,rfl,rfl,rfl,rfl,rfl,rfl,rfl⟩) (fun a hF=>?_)
  |refine bX (Bb 11 hF) [(100000,100000)] [(100000,100000)] _ _ Pg Sf [] (fun a h=>aJ (Z5 h)) (B1 bC rfl rfl) rfl rfl rfl ⟨⟨rfl,rfl⟩,trivial⟩ (fun a=>⟨rfl,rfl,rfl,rfl,rfl,rfl,rfl,rfl⟩) (fun a hF=>?_)
  |refine GX.o (res:=Mh) (meF:=Jh) hF ?_;exact GX.mk (z67 _) (aA []) rfl _ rfl (by repeat' first|exact Sub.nil _|exact Sub.refl _|refine Sub.agg ?_|refine Sub.tup ?_|refine Sub.fn ?_|exact SubL.nil|refine SubL.cons ?_ ?_|refine Sub.sl _ ?_|exact SubE.nil|refine SubE.cons ?_ ?_) [100000] ⟨Or.inr ⟨1,0,_,_,_,_,_,Nat.le_of_ble_eq_true rfl,rfl,rfl,rfl,rfl,rfl⟩,trivial⟩ rfl
  |refine cB hF De (fun x hF=>?_)
  |refine aW (Bb 24 hF) [(100000,100000)] [(100000,100000)] _ _ Jh Mh [] (fun a h=>aJ (ih h)) (B1 bD rfl rfl) rfl rfl rfl ⟨⟨rfl,rfl⟩,trivial⟩ (fun a=>⟨rfl,rfl,rfl,rfl,rfl,rfl,rfl,rfl⟩) (fun a hF=>?_)
  |refine bX (Bb 24 hF) [(100000,100000)] [(100000,100000)] _ _ Jh Mh [] (fun a h=>aJ (ih h)) (B1 bD rfl rfl) rfl rfl rfl ⟨⟨rfl,rfl⟩,trivial⟩ (fun a=>⟨rfl,rfl,rfl,rfl,rfl,rfl,rfl,rfl⟩) (fun a hF=>?_)
  |exact ⟨_,hF,aA []⟩
  |refine aR hF (aA []) fun m v hF=>?_
  |refine AndA ?_
  |refine aH ?_
end
end Go.Proofs.YthbogefcfhmpgaaGreat
