/- What some functions compute, over plain values. Printed by a program of mine (gen_fun.lean). -/
import Derived.Test.YtjpknpjjcddnnaaGreatK29
import Derived.Test.YtjpknpjjcddnnaaGreatK21
set_option linter.unusedVariables false
set_option linter.unusedSimpArgs false
set_option maxRecDepth 100000
set_option maxHeartbeats 8000000
namespace Go.Proofs.YtjpknpjjcddnnaaGreat
open Go.RowKit
theorem zt7 {n m0 m1 r}(hF:zc8 n m0 m1=some r):ConG E0.P none (CalF E0.P 250 0) [.ptr 100000 0,.ptr 100001 0] [] (zyp m0 m1) (zev r) (zbu r):=by
 unfold zc8 at hF
 refine ConG.walk (E:=(E0p 2)) (caps:=[]) _ Tryz.func250 rfl rfl rfl rfl rfl ?_
 repeat' first
  |refine AW.step ?_;conv=>whnf
  |refine GX.o (res:=zev) (meF:=zbu) hF ?_;exact GX.mk (zxz _) (LeX.a []) rfl _ rfl (by repeat' first|exact Sub.nil _|exact Sub.refl _|refine Sub.agg ?_|refine Sub.tup ?_|refine Sub.fn ?_|exact SubL.nil|refine SubL.cons ?_ ?_|refine Sub.sl _ ?_|exact SubE.nil|refine SubE.cons ?_ ?_) [] trivial rfl
def zyo (m0:z02)(m1:z02):List (Nat×Ent):=[(100000,.box 45 [aI (m0.fKind),aI (m0.fNum),.str (m0.fText)]),(100001,.box 45 [aI (m1.fKind),aI (m1.fNum),.str (m1.fText)])]
def zbt (r:z02×z02×z02):List (Nat×Ent):=[(2,.box 45 [aI (r.1.fKind),aI (r.1.fNum),.str (r.1.fText)]),(100000,.box 45 [aI (r.2.1.fKind),aI (r.2.1.fNum),.str (r.2.1.fText)]),(100001,.box 45 [aI (r.2.2.fKind),aI (r.2.2.fNum),.str (r.2.2.fText)])]
def zeu (r:z02×z02×z02):AV:=.agg [aI (r.1.fKind),aI (r.1.fNum),.str (r.1.fText)]
def zxy (r:z02×z02×z02):AS:=⟨[(2,.ptr 2 0),(0,.ptr 100000 0),(1,.ptr 100001 0)],zbt r⟩
theorem zt6 {n m0 m1 r}(hF:zc7 n m0 m1=some r):ConG E0.P none (CalF E0.P 251 0) [.ptr 100000 0,.ptr 100001 0] [] (zyo m0 m1) (zeu r) (zbt r):=by
 unfold zc7 at hF
 refine ConG.walk (E:=(E0p 2)) (caps:=[]) _ Tryz.func251 rfl rfl rfl rfl rfl ?_
 repeat' first
  |refine AW.step ?_;conv=>whnf
  |refine GX.o (res:=zeu) (meF:=zbt) hF ?_;exact GX.mk (zxy _) (LeX.a []) rfl _ rfl (by repeat' first|exact Sub.nil _|exact Sub.refl _|refine Sub.agg ?_|refine Sub.tup ?_|refine Sub.fn ?_|exact SubL.nil|refine SubL.cons ?_ ?_|refine Sub.sl _ ?_|exact SubE.nil|refine SubE.cons ?_ ?_) [] trivial rfl
def zyn (m0:z02)(m1:z02):List (Nat×Ent):=[(100000,.box 45 [aI (m0.fKind),aI (m0.fNum),.str (m0.fText)]),(100001,.box 45 [aI (m1.fKind),aI (m1.fNum),.str (m1.fText)])]
def zbs (r:z02×z02×z02):List (Nat×Ent):=[(2,.box 45 [aI (r.1.fKind),aI (r.1.fNum),.str (r.1.fText)]),(100000,.box 45 [aI (r.2.1.fKind),aI (r.2.1.fNum),.str (r.2.1.fText)]),(100001,.box 45 [aI (r.2.2.fKind),aI (r.2.2.fNum),.str (r.2.2.fText)])]
def zet (r:z02×z02×z02):AV:=.agg [aI (r.1.fKind),aI (r.1.fNum),.str (r.1.fText)]
def zxx (r:z02×z02×z02):AS:=⟨[(2,.ptr 2 0),(0,.ptr 100000 0),(1,.ptr 100001 0)],zbs r⟩
theorem zt5 {n m0 m1 r}(hF:zc6 n m0 m1=some r):ConG E0.P none (CalF E0.P 252 0) [.ptr 100000 0,.ptr 100001 0] [] (zyn m0 m1) (zet r) (zbs r):=by
 unfold zc6 at hF
 refine ConG.walk (E:=(E0p 2)) (caps:=[]) _ Tryz.func252 rfl rfl rfl rfl rfl ?_
 repeat' first
  |refine AW.step ?_;conv=>whnf
  |refine GX.o (res:=zet) (meF:=zbs) hF ?_;exact GX.mk (zxx _) (LeX.a []) rfl _ rfl (by repeat' first|exact Sub.nil _|exact Sub.refl _|refine Sub.agg ?_|refine Sub.tup ?_|refine Sub.fn ?_|exact SubL.nil|refine SubL.cons ?_ ?_|refine Sub.sl _ ?_|exact SubE.nil|refine SubE.cons ?_ ?_) [] trivial rfl
def zym (m0:z02):List (Nat×Ent):=[(100000,.box 45 [aI (m0.fKind),aI (m0.fNum),.str (m0.fText)])]
def zbr (r:z02×z02):List (Nat×Ent):=[(1,.box 45 [aI (r.1.fKind),aI (r.1.fNum),.str (r.1.fText)]),(100000,.box 45 [aI (r.2.fKind),aI (r.2.fNum),.str (r.2.fText)])]
def zes (r:z02×z02):AV:=.agg [aI (r.1.fKind),aI (r.1.fNum),.str (r.1.fText)]
def zxw (r:z02×z02):AS:=⟨[(1,.ptr 1 0),(0,.ptr 100000 0)],zbr r⟩
theorem zt4 {n m0 r}(hF:zc5 n m0=some r):ConG E0.P none (CalF E0.P 253 0) [.ptr 100000 0] [] (zym m0) (zes r) (zbr r):=by
 unfold zc5 at hF
 refine ConG.walk (E:=(E0p 1)) (caps:=[]) _ Tryz.func253 rfl rfl rfl rfl rfl ?_
 repeat' first
  |refine AW.step ?_;conv=>whnf
  |refine GX.o (res:=zes) (meF:=zbr) hF ?_;exact GX.mk (zxw _) (LeX.a []) rfl _ rfl (by repeat' first|exact Sub.nil _|exact Sub.refl _|refine Sub.agg ?_|refine Sub.tup ?_|refine Sub.fn ?_|exact SubL.nil|refine SubL.cons ?_ ?_|refine Sub.sl _ ?_|exact SubE.nil|refine SubE.cons ?_ ?_) [] trivial rfl
def zyl (m0:z02):List (Nat×Ent):=[(100000,.box 45 [aI (m0.fKind),aI (m0.fNum),.str (m0.fText)])]
def zbq (r:z02×z02):List (Nat×Ent):=[(1,.box 45 [aI (r.1.fKind),aI (r.1.fNum),.str (r.1.fText)]),(100000,.box 45 [aI (r.2.fKind),aI (r.2.fNum),.str (r.2.fText)])]
def zer (r:z02×z02):AV:=.agg [aI (r.1.fKind),aI (r.1.fNum),.str (r.1.fText)]
def zxv (r:z02×z02):AS:=⟨[(1,.ptr 1 0),(0,.ptr 100000 0)],zbq r⟩
theorem zt3 {n m0 r}(hF:zc4 n m0=some r):ConG E0.P none (CalF E0.P 254 0) [.ptr 100000 0] [] (zyl m0) (zer r) (zbq r):=by
 unfold zc4 at hF
 refine ConG.walk (E:=(E0p 1)) (caps:=[]) _ Tryz.func254 rfl rfl rfl rfl rfl ?_
 repeat' first
  |refine AW.step ?_;conv=>whnf
  |refine GX.o (res:=zer) (meF:=zbq) hF ?_;exact GX.mk (zxv _) (LeX.a []) rfl _ rfl (by repeat' first|exact Sub.nil _|exact Sub.refl _|refine Sub.agg ?_|refine Sub.tup ?_|refine Sub.fn ?_|exact SubL.nil|refine SubL.cons ?_ ?_|refine Sub.sl _ ?_|exact SubE.nil|refine SubE.cons ?_ ?_) [] trivial rfl
def zln (r:z02):AV:=.agg [aI (r.fKind),aI (r.fNum),.str (r.fText)]
theorem zxi {n a0 a1 a2 r}(hF:zbe n a0 a1 a2=some r):Con E0 true 247 [aI (a0),.agg [aI (a1.fKind),aI (a1.fNum),.str (a1.fText)],.agg [aI (a2.fKind),aI (a2.fNum),.str (a2.fText)]] (zln r):=by
 unfold zbe at hF
 refine Con.walk _ Tryz.func247 rfl (z08 Tryz.func247 rfl rfl) rfl (Or.inr rfl) ?_
 repeat' first
  |refine AW.step ?_;conv=>whnf
  |refine NatX.oS hF rfl (fun hF=>?_) (fun hF=>?_)
  |(cases hF;done)
  |refine z0m.o hF zio (fun a h=>zt8 h) (fun a hF=>?_)
  |refine zd1.oM (zdj 15 hF) [(100000,4),(100001,5)] [(2,16000000),(100000,4),(100001,5)] _ _ zbu zev [] (fun a h=>ConG.up (zt7 h)) (z08 Tryz.func250 rfl rfl) rfl rfl rfl ⟨⟨rfl,rfl⟩,⟨⟨rfl,rfl⟩,trivial⟩⟩ (fun a=>⟨rfl,rfl,rfl,rfl,rfl,rfl,rfl,rfl⟩) (fun a hF=>?_)
  |refine zd1.oM (zdj 15 hF) [(100000,4),(100001,5)] [(2,16000000),(100000,4),(100001,5)] _ _ zbt zeu [] (fun a h=>ConG.up (zt6 h)) (z08 Tryz.func251 rfl rfl) rfl rfl rfl ⟨⟨rfl,rfl⟩,⟨⟨rfl,rfl⟩,trivial⟩⟩ (fun a=>⟨rfl,rfl,rfl,rfl,rfl,rfl,rfl,rfl⟩) (fun a hF=>?_)
  |refine zd1.oM (zdj 15 hF) [(100000,4),(100001,5)] [(2,16000000),(100000,4),(100001,5)] _ _ zbs zet [] (fun a h=>ConG.up (zt5 h)) (z08 Tryz.func252 rfl rfl) rfl rfl rfl ⟨⟨rfl,rfl⟩,⟨⟨rfl,rfl⟩,trivial⟩⟩ (fun a=>⟨rfl,rfl,rfl,rfl,rfl,rfl,rfl,rfl⟩) (fun a hF=>?_)
  |refine zd1.oM (zdj 15 hF) [(100000,4)] [(1,16000000),(100000,4)] _ _ zbr zes [] (fun a h=>ConG.up (zt4 h)) (z08 Tryz.func253 rfl rfl) rfl rfl rfl ⟨⟨rfl,rfl⟩,trivial⟩ (fun a=>⟨rfl,rfl,rfl,rfl,rfl,rfl,rfl,rfl⟩) (fun a hF=>?_)
  |refine zd1.oM (zdj 15 hF) [(100000,5)] [(1,16000000),(100000,5)] _ _ zbq zer [] (fun a h=>ConG.up (zt3 h)) (z08 Tryz.func254 rfl rfl) rfl rfl rfl ⟨⟨rfl,rfl⟩,trivial⟩ (fun a=>⟨rfl,rfl,rfl,rfl,rfl,rfl,rfl,rfl⟩) (fun a hF=>?_)
  |exact RetX.oA hF
def znh (r:z0l):AV:=.agg [aI (r.fKind),aI (r.fCount),aI (r.fValue.fKind),aI (r.fValue.fNum),.str (r.fValue.fText)]
theorem zzc {n a0 a1 r}(hF:zec n a0 a1=some r):Con E0 true 240 [.agg [aI (a0.fKind),aI (a0.fCount),aI (a0.fValue.fKind),aI (a0.fValue.fNum),.str (a0.fValue.fText)],.agg [aI (a1.fKind),aI (a1.fCount),aI (a1.fValue.fKind),aI (a1.fValue.fNum),.str (a1.fValue.fText)]] (znh r):=by
 unfold zec at hF
 refine Con.walk _ Tryz.func240 rfl (z08 Tryz.func240 rfl rfl) rfl (Or.inr rfl) ?_
 repeat' first
  |refine AW.step ?_;conv=>whnf
  |refine z0v.o hF (fun hF=>?_) (fun hF=>?_)
  |refine z0m.o hF zln (fun a h=>zxi h) (fun a hF=>?_)
  |refine And.intro ⟨by kernel_rfl,by kernel_rfl⟩ ?_
  |exact RetX.oA hF
def zu8 (r:z0l):AV:=.agg [aI (r.fKind),aI (r.fCount),aI (r.fValue.fKind),aI (r.fValue.fNum),.str (r.fValue.fText)]
theorem y1l {n a0 a1 a2 r}(hF:zfy n a0 a1 a2=some r):Con E0 true 239 [.agg [aI (a0.fKind),aI (a0.fCount),aI (a0.fValue.fKind),aI (a0.fValue.fNum),.str (a0.fValue.fText)],.agg [aI (a1.fKind),aI (a1.fNum),.str (a1.fText)],.ref [aI (a2)]] (zu8 r):=by
 unfold zfy at hF
 refine Con.walk _ Tryz.func239 rfl (z08 Tryz.func239 rfl rfl) rfl (Or.inr rfl) ?_
 repeat' first
  |refine AW.step ?_;conv=>whnf
  |refine z0m.o hF zng (fun a h=>zzb h) (fun a hF=>?_)
  |refine z0m.o hF znh (fun a h=>zzc h) (fun a hF=>?_)
  |refine And.intro ⟨by kernel_rfl,by kernel_rfl⟩ ?_
  |exact RetX.oA hF
def zya (a2c0:Int)(a1:(List z02))(v1_0:Int×Int×Int×Int×Int×ByteArray):AS:=⟨[(2,.fn 239 [.ref [aI (a2c0)]]),(3,.ptr 3 0),(6,.ptr 6 0),(9,.sl 3 (a1.map z06)),(10,aI (((a1.map z06).length:Int))),(11,aI (v1_0.1))],[(3,.box 275 [aI (v1_0.2.1),aI (v1_0.2.2.1),aI (v1_0.2.2.2.1),aI (v1_0.2.2.2.2.1),.str (v1_0.2.2.2.2.2)]),(6,.box 275 [aI (0),aI (0),aI (0),aI (0),.str (ByteArray.empty)])]⟩
theorem zxs {n a2c0 a1 k1_0_0}:z26 E0 21 (z8h n a2c0 a1 k1_0_0) (zya a2c0 a1):=LoopA.oT fun _=>rfl
def zni (r:z0l):AV:=.agg [aI (r.fKind),aI (r.fCount),aI (r.fValue.fKind),aI (r.fValue.fNum),.str (r.fValue.fText)]
theorem zzd {n a0 a1 a2c0 r}(hF:zc3 n a0 a1 a2c0=some r):Con E0 true 238 [.agg [aI (a0.fKind),aI (a0.fCount),aI (a0.fValue.fKind),aI (a0.fValue.fNum),.str (a0.fValue.fText)],.sl 3 (a1.map z06),.fn 239 [.ref [aI (a2c0)]]] (zni r):=by
 unfold zc3 at hF
 refine Con.walk _ Tryz.func238 rfl (z08 Tryz.func238 rfl rfl) rfl (Or.inr rfl) ?_
 repeat' first
  |refine AW.step ?_;conv=>whnf
  |refine z0v.o hF (fun hF=>?_) (fun hF=>?_)
  |refine IdxX.o z06 hF (fun x hF=>?_)
  |refine z0m.o hF zu8 (fun a h=>y1l h) (fun a hF=>?_)
  |exact ⟨_,hF,LeX.a []⟩
  |refine zxs hF (LeX.a []) (fun m v hF=>?_);unfold z8h at hF
  |exact RetX.oA hF
def zzw (a0:z0l)(w1_0:Bool):AS:=⟨[(1,.ptr 1 0),(10,.bool (w1_0))],[(1,.box 275 [aI (a0.fKind),aI (a0.fCount),aI (a0.fValue.fKind),aI (a0.fValue.fNum),.str (a0.fValue.fText)])]⟩
theorem zzn {n a0}:z57 E0 77 (z7d n a0) (zzw a0):=AW.jT
def zrp (r:Int):AV:=aI (r)
theorem y0q {n a0 r}(hF:zd0 n a0=some r):Con E0 true 248 [.agg [aI (a0.fKind),aI (a0.fCount),aI (a0.fValue.fKind),aI (a0.fValue.fNum),.str (a0.fValue.fText)]] (zrp r):=by
 unfold zd0 at hF
 refine Con.walk _ Tryz.func248 rfl (z08 Tryz.func248 rfl rfl) rfl (Or.inr rfl) ?_
 repeat' first
  |refine zzn hF (fun hF=>?_) (fun v hF=>?_);rotate_left;unfold z7d at hF
  |refine AW.regO hF (fun hF=>?_)
  |refine AW.stepU [3,7,9,11,6] ?_;conv=>whnf
  |refine z0v.o hF (fun hF=>?_) (fun hF=>?_)
  |refine z0v.t ?_
  |refine z0v.f ?_
  |refine z0m.o hF zhw (fun a h=>zks h) (fun a hF=>?_)
  |refine z0m.o hF zgp (fun a h=>zgf h) (fun a hF=>?_)
  |refine z0m.o hF zhv (fun a h=>zkr h) (fun a hF=>?_)
  |exact ⟨_,hF,LeX.a []⟩
  |refine EqX.mk (by first|rfl|kernel_rfl) ?_
  |exact RetX.oA hF
def zyb (a1:z02)(a0:z0l)(w1_0:Bool):AS:=⟨[(2,.ptr 2 0),(3,.ptr 3 0),(4,.ptr 4 0),(29,.bool (w1_0))],[(2,.box 275 [aI (a0.fKind),aI (a0.fCount),aI (a0.fValue.fKind),aI (a0.fValue.fNum),.str (a0.fValue.fText)]),(3,.box 45 [aI (a1.fKind),aI (a1.fNum),.str (a1.fText)]),(4,.box 45 [aI (0),aI (0),.str (ByteArray.empty)])]⟩
theorem zxt {n a1 a0}:z57 E0 41 (z6q n a1 a0) (zyb a1 a0):=AW.jT
def znj (r:z02×Int):AV:=.tup [.agg [aI (r.1.fKind),aI (r.1.fNum),.str (r.1.fText)],aI (r.2)]
theorem zze {n a0 a1 r}(hF:z9x n a0 a1=some r):Con E0 true 242 [.agg [aI (a0.fKind),aI (a0.fCount),aI (a0.fValue.fKind),aI (a0.fValue.fNum),.str (a0.fValue.fText)],.agg [aI (a1.fKind),aI (a1.fNum),.str (a1.fText)]] (znj r):=by
 unfold z9x at hF
 refine Con.walk _ Tryz.func242 rfl (z08 Tryz.func242 rfl rfl) rfl (Or.inr rfl) ?_
 repeat' first
  |refine zxt hF (fun hF=>?_) (fun v hF=>?_);rotate_left;unfold z6q at hF
  |refine AW.regO hF (fun hF=>?_)
  |refine AW.stepU [9] ?_;conv=>whnf
  |refine z0v.o hF (fun hF=>?_) (fun hF=>?_)
  |refine z0m.o hF zrp (fun a h=>y0q h) (fun a hF=>?_)
  |refine z0m.o hF zhu (fun a h=>zkq h) (fun a hF=>?_)
  |exact ⟨_,hF,LeX.a []⟩
  |exact RetX.oA hF
def S_aggregate_Of_l1 (a2:z02)(a1:(List z02))(a0:Int)(v1_0:Int):AS:=⟨[(1,.sl 3 (a1.map z06)),(3,.ptr 3 0),(5,.ptr 5 0),(6,.ptr 6 0),(22,.sl 3 (a1.map z06)),(23,aI (((a1.map z06).length:Int))),(24,aI (v1_0))],[(3,.box 3 [aI (a0)]),(5,.box 45 [aI (a2.fKind),aI (a2.fNum),.str (a2.fText)]),(6,.box 45 [aI (0),aI (0),.str (ByteArray.empty)])]⟩
theorem aggregate_Of_l1_o {n a2 a1 a0 k1_0_0}:z26 E0 46 (zap n a2 a1 a0 k1_0_0) (S_aggregate_Of_l1 a2 a1 a0):=LoopA.oT fun _=>rfl
def y07 (r:z02×Int):AV:=.tup [.agg [aI (r.1.fKind),aI (r.1.fNum),.str (r.1.fText)],aI (r.2)]
theorem con_aggregate_Of {n a0 a1 a2 r}(hF:ze1 n a0 a1 a2=some r):Con E0 true 232 [aI (a0),.sl 3 (a1.map z06),.agg [aI (a2.fKind),aI (a2.fNum),.str (a2.fText)]] (y07 r):=by
 unfold ze1 at hF
 refine Con.walk _ Tryz.func232 rfl (z08 Tryz.func232 rfl rfl) rfl (Or.inr rfl) ?_
 repeat' first
  |refine AW.step ?_;conv=>whnf
  |refine z0v.o hF (fun hF=>?_) (fun hF=>?_)
  |refine z0m.o hF zhw (fun a h=>zks h) (fun a hF=>?_)
  |refine zd1.o hF zni (fun a h=>zzd h) (fun _=>Or.inr rfl) (fun a hF=>?_)
  |refine z0m.o hF znj (fun a h=>zze h) (fun a hF=>?_)
  |refine IdxX.o z06 hF (fun x hF=>?_)
  |refine z0m.o hF zhu (fun a h=>zkq h) (fun a hF=>?_)
  |exact ⟨_,hF,LeX.a []⟩
  |refine aggregate_Of_l1_o hF (LeX.a []) (fun m v hF=>?_);unfold zap at hF
  |exact RetX.oA hF
def R_cmp_isNaN (r:Bool):AV:=.bool (r)
theorem con_cmp_isNaN {n a0 r}(hF:zlt n a0=some r):Con E0 true 112 [aI (a0)] (R_cmp_isNaN r):=by
 unfold zlt at hF
 refine Con.walk _ Tryz.func112 rfl (z08 Tryz.func112 rfl rfl) rfl (Or.inr rfl) ?_
 repeat' first
  |refine AW.step ?_;conv=>whnf
  |exact RetX.oA hF
def zdp (r:Int):AV:=aI (r)
theorem zcl {n a0 a1 r}(hF:z54 n a0 a1=some r):Con E0 true 81 [aI (a0),aI (a1)] (zdp r):=by
 unfold z54 at hF
 refine Con.walk _ Tryz.func81 rfl (z08 Tryz.func81 rfl rfl) rfl (Or.inr rfl) ?_
 repeat' first
  |refine AW.step ?_;conv=>whnf
  |refine z0v.o hF (fun hF=>?_) (fun hF=>?_)
  |refine z0m.o hF R_cmp_isNaN (fun a h=>con_cmp_isNaN h) (fun a hF=>?_)
  |exact RetX.oA hF
def S_cmp_Or_l1 (a0:(List Int))(v1_0:Int):AS:=⟨[(3,aI (0)),(6,.sl 1 (a0.map aI)),(7,aI (((a0.map aI).length:Int))),(8,aI (v1_0))],[]⟩
end Go.Proofs.YtjpknpjjcddnnaaGreat
namespace Go.Proofs.YtjpknpjjcddnnaaGreat
open Go.RowKit
theorem cmp_Or_l1_o {n a0 k1_0_0}:z26 E0 18 (zhy n a0 k1_0_0) (S_cmp_Or_l1 a0):=LoopA.oT fun _=>rfl
def zz3 (r:Int):AV:=aI (r)
theorem zqh {n a0 r}(hF:zh8 n a0=some r):Con E0 true 79 [.sl 1 (a0.map aI)] (zz3 r):=by
 unfold zh8 at hF
 refine Con.walk _ Tryz.func79 rfl (z08 Tryz.func79 rfl rfl) rfl (Or.inr rfl) ?_
 repeat' first
  |refine AW.step ?_;conv=>whnf
  |refine z0v.o hF (fun hF=>?_) (fun hF=>?_)
  |refine IdxX.o aI hF (fun x hF=>?_)
  |exact ⟨_,hF,LeX.a []⟩
  |refine cmp_Or_l1_o hF (LeX.a []) (fun m v hF=>?_);unfold zhy at hF
  |exact RetX.oA hF
def R_match_refs (r:Int):AV:=aI (r)
theorem con_match_refs {n a0 a1 r}(hF:zit n a0 a1=some r):Con E0 true 80 [.agg [aI (a0.fTime),aI (a0.fSource),aI (a0.fSeq)],.agg [aI (a1.fTime),aI (a1.fSource),aI (a1.fSeq)]] (R_match_refs r):=by
 unfold zit at hF
 refine Con.walk _ Tryz.func80 rfl (z08 Tryz.func80 rfl rfl) rfl (Or.inr rfl) ?_
 repeat' first
  |refine AW.step ?_;conv=>whnf
  |refine z0m.o hF zdp (fun a h=>zcl h) (fun a hF=>?_)
  |refine z0m.o hF zz3 (fun a h=>zqh h) (fun a hF=>?_)
  |refine And.intro ⟨by kernel_rfl,by kernel_rfl⟩ ?_
  |exact RetX.oA hF
def zrm (r:Int):AV:=aI (r)
theorem y0n {n a0 a1 r}(hF:zcw n a0 a1=some r):Con E0 true 78 [.agg [aI (a0.fVar),aI (a0.fRef.fTime),aI (a0.fRef.fSource),aI (a0.fRef.fSeq)],.agg [aI (a1.fVar),aI (a1.fRef.fTime),aI (a1.fRef.fSource),aI (a1.fRef.fSeq)]] (zrm r):=by
 unfold zcw at hF
 refine Con.walk _ Tryz.func78 rfl (z08 Tryz.func78 rfl rfl) rfl (Or.inr rfl) ?_
 repeat' first
  |refine AW.step ?_;conv=>whnf
  |refine z0m.o hF R_match_refs (fun a h=>con_match_refs h) (fun a hF=>?_)
  |refine z0m.o hF zdp (fun a h=>zcl h) (fun a hF=>?_)
  |refine z0m.o hF zz3 (fun a h=>zqh h) (fun a hF=>?_)
  |refine And.intro ⟨by kernel_rfl,by kernel_rfl⟩ ?_
  |exact RetX.oA hF
def ztx (a1:(List z0u))(a0:(List z0u))(v1_0:Int):AS:=⟨[(0,.sl 4 (a0.map z0a)),(1,.sl 4 (a1.map z0a)),(2,.fn 78 []),(11,.sl 4 (a0.map z0a)),(12,aI (((a0.map z0a).length:Int))),(13,aI (v1_0))],[]⟩
theorem zsf {n a1 a0 k1_0_0}:z26 E0 39 (z73 n a1 a0 k1_0_0) (ztx a1 a0):=LoopA.oT fun _=>rfl
def zji (r:Int):AV:=aI (r)
theorem zvf {n a0 a1 r}(hF:za8 n a0 a1=some r):Con E0 true 77 [.sl 4 (a0.map z0a),.sl 4 (a1.map z0a),.fn 78 []] (zji r):=by
 unfold za8 at hF
 refine Con.walk _ Tryz.func77 rfl (z08 Tryz.func77 rfl rfl) rfl (Or.inr rfl) ?_
 repeat' first
  |refine AW.step ?_;conv=>whnf
  |refine z0v.o hF (fun hF=>?_) (fun hF=>?_)
  |refine IdxX.o z0a hF (fun x hF=>?_)
  |refine z0m.o hF zrm (fun a h=>y0n h) (fun a hF=>?_)
  |exact ⟨_,hF,LeX.a []⟩
  |refine zsf hF (LeX.a []) (fun m v hF=>?_);unfold z73 at hF
  |exact RetX.oA hF
def zle (r:Int):AV:=aI (r)
theorem zqe {n a0 a1 r}(hF:zcx n a0 a1=some r):Con E0 true 43 [.agg [.sl 4 (a0.fBindings.map z0a)],.agg [.sl 4 (a1.fBindings.map z0a)]] (zle r):=by
 unfold zcx at hF
 refine Con.walk _ Tryz.func43 rfl (z08 Tryz.func43 rfl rfl) rfl (Or.inr rfl) ?_
 repeat' first
  |refine AW.step ?_;conv=>whnf
  |refine z0m.o hF zji (fun a h=>zvf h) (fun a hF=>?_)
  |exact RetX.oA hF
def zye (r:Int):AV:=aI (r)
theorem con_run_compare_1 {n a0 a1 r}(hF:zey n a0 a1=some r):Con E0 true 90 [.agg [aI (a0.fScope),aI (a0.fTime)],.agg [aI (a1.fScope),aI (a1.fTime)]] (zye r):=by
 unfold zey at hF
 refine Con.walk _ Tryz.func90 rfl (z08 Tryz.func90 rfl rfl) rfl (Or.inr rfl) ?_
 repeat' first
  |refine AW.step ?_;conv=>whnf
  |refine z0m.o hF zdp (fun a h=>zcl h) (fun a hF=>?_)
  |refine z0m.o hF zz3 (fun a h=>zqh h) (fun a hF=>?_)
  |refine And.intro ⟨by kernel_rfl,by kernel_rfl⟩ ?_
  |exact RetX.oA hF
def zl1 (a1:(List z0b))(a0:(List z0b))(v1_0:Int):AS:=⟨[(0,.sl 2 (a0.map z09)),(1,.sl 2 (a1.map z09)),(2,.fn 90 []),(11,.sl 2 (a0.map z09)),(12,aI (((a0.map z09).length:Int))),(13,aI (v1_0))],[]⟩
theorem zkb {n a1 a0 k1_0_0}:z26 E0 39 (z47 n a1 a0 k1_0_0) (zl1 a1 a0):=LoopA.oT fun _=>rfl
def zg9 (r:Int):AV:=aI (r)
theorem zmi {n a0 a1 r}(hF:z8f n a0 a1=some r):Con E0 true 89 [.sl 2 (a0.map z09),.sl 2 (a1.map z09),.fn 90 []] (zg9 r):=by
 unfold z8f at hF
 refine Con.walk _ Tryz.func89 rfl (z08 Tryz.func89 rfl rfl) rfl (Or.inr rfl) ?_
 repeat' first
  |refine AW.step ?_;conv=>whnf
  |refine z0v.o hF (fun hF=>?_) (fun hF=>?_)
  |refine IdxX.o z09 hF (fun x hF=>?_)
  |refine z0m.o hF zye (fun a h=>con_run_compare_1 h) (fun a hF=>?_)
  |exact ⟨_,hF,LeX.a []⟩
  |refine zkb hF (LeX.a []) (fun m v hF=>?_);unfold z47 at hF
  |exact RetX.oA hF
def y1t (r:Int):AV:=aI (r)
theorem con_run_compare {n a0 a1 r}(hF:zh4 n a0 a1=some r):Con E0 true 59 [.agg [aI (a0.fState),.sl 4 (a0.fBindings.map z0a),.sl 2 (a0.fStarts.map z09)],.agg [aI (a1.fState),.sl 4 (a1.fBindings.map z0a),.sl 2 (a1.fStarts.map z09)]] (y1t r):=by
 unfold zh4 at hF
 refine Con.walk _ Tryz.func59 rfl (z08 Tryz.func59 rfl rfl) rfl (Or.inr rfl) ?_
 repeat' first
  |refine AW.step ?_;conv=>whnf
  |refine z0m.o hF zdp (fun a h=>zcl h) (fun a hF=>?_)
  |refine z0m.o hF zle (fun a h=>zqe h) (fun a hF=>?_)
  |refine z0m.o hF zg9 (fun a h=>zmi h) (fun a hF=>?_)
  |refine z0m.o hF zz3 (fun a h=>zqh h) (fun a hF=>?_)
  |refine And.intro ⟨by kernel_rfl,by kernel_rfl⟩ ?_
  |exact RetX.oA hF
def R_run_ref (r:z1g):AV:=.agg [aI (r.fTime),aI (r.fSource),aI (r.fSeq)]
theorem con_run_ref {n a0 r}(hF:zrr n a0=some r):Con E0 true 72 [.agg [aI (a0.fSource),aI (a0.fSeq),aI (a0.fType),aI (a0.fTime),.sl 3 (a0.fValues.map z06)]] (R_run_ref r):=by
 unfold zrr at hF
 refine Con.walk _ Tryz.func72 rfl (z08 Tryz.func72 rfl rfl) rfl (Or.inr rfl) ?_
 repeat' first
  |refine AW.step ?_;conv=>whnf
  |exact RetX.oA hF
end Go.Proofs.YtjpknpjjcddnnaaGreat
namespace Go.Proofs.YtjpknpjjcddnnaaGreat
open Go.RowKit
def zri (r:Bool):AV:=.bool (r)
theorem y0j {n a0 a1 r}(hF:zam n a0 a1=some r):Con E0 true 88 [.agg [aI (a0.fState),.sl 4 (a0.fBindings.map z0a),.sl 2 (a0.fStarts.map z09)],.agg [aI (a1.fState),.sl 4 (a1.fBindings.map z0a),.sl 2 (a1.fStarts.map z09)],.ref [.fn 59 []]] (zri r):=by
 unfold zam at hF
 refine Con.walk _ Tryz.func88 rfl (z08 Tryz.func88 rfl rfl) rfl (Or.inr rfl) ?_
 repeat' first
  |refine AW.step ?_;conv=>whnf
  |refine z0m.o hF y1t (fun a h=>con_run_compare h) (fun a hF=>?_)
  |exact RetX.oA hF
def zty (x46:Nat)(v2_1:Int×Int×(List z00)):AS:=⟨[(0,.row 200000),(1,.fn 88 [.ref [.fn 59 []]]),(5,aI (v2_1.1)),(6,.der (.sub 3 (x46)) 200000),(7,aI (v2_1.2.1))],[(200000,.row 77 3 (v2_1.2.2.map z0e))]⟩
theorem zsg {n x46 k2_1_0}:z26 (E0p 2) 66 (z4z n x46 k2_1_0) (zty x46):=LoopA.oT fun _=>rfl
def ztz (m0:(List z00))(v1_0:Int):AS:=⟨[(0,.row 200000),(1,.fn 88 [.ref [.fn 59 []]]),(5,aI (v1_0))],[(200000,.row 77 3 (m0.map z0e))]⟩
theorem zsh {n m0 k1_0_0}:z26 (E0p 2) 66 (z74 n m0 k1_0_0) (ztz m0):=LoopA.oT fun _=>rfl
def zzx (m0:(List z00)):List (Nat×Ent):=[(200000,.row 77 3 (m0.map z0e))]
def z9z (r:(List z00)):List (Nat×Ent):=[(260000,.row 77 3 (r.map z0e))]
def zci (r:(List z00)):AV:=.row 260000
def zj5 (r:(List z00)):AS:=⟨[(4,.row 260000)],z9z r⟩
theorem zvg {n m0 r}(hF:za9 n m0=some r):ConG E0.P none (CalF E0.P 87 0) [.row 200000,.fn 88 [.ref [.fn 59 []]]] [] (zzx m0) (zci r) (z9z r):=by
 unfold za9 at hF
 refine ConG.walk (E:=(E0p 2)) (caps:=[]) _ Tryz.func87 rfl rfl rfl rfl rfl ?_
 repeat' first
  |refine AW.step ?_;conv=>whnf
  |refine z0v.o hF (fun hF=>?_) (fun hF=>?_)
  |refine GX.o (res:=zci) (meF:=z9z) hF ?_;exact GX.mk (zj5 _) (LeX.a [(260000,200000)]) rfl _ rfl (by repeat' first|exact Sub.nil _|exact Sub.refl _|refine Sub.agg ?_|refine Sub.tup ?_|refine Sub.fn ?_|exact SubL.nil|refine SubL.cons ?_ ?_|refine Sub.sl _ ?_|exact SubE.nil|refine SubE.cons ?_ ?_) [] trivial rfl
  |refine NatX.o hF (fun m hF=>?_)
  |refine EltX.o z0e hF (fun x hF=>?_)
  |refine z0m.o hF zri (fun a h=>Con.env rfl rfl (y0j h)) (fun a hF=>?_)
  |refine OpX.sub hF rfl rfl rfl rfl rfl rfl rfl rfl rfl rfl (fun m hF=>?_)
  |refine OpX.clr z0e hF rfl rfl rfl rfl rfl rfl rfl rfl rfl rfl rfl (by first|exact SubL.refl _|(repeat' first|exact SubL.nil|refine SubL.cons ?_ ?_|exact Sub.refl _|exact Sub.nil _|refine Sub.agg ?_)) (fun l hF=>?_)
  |refine SlsX.o z0e hF (fun l hF=>?_)
  |refine GX.o (res:=zci) (meF:=z9z) hF ?_;exact GX.mk (zj5 _) (LeX.a [(260000,64)]) rfl _ rfl (by repeat' first|exact Sub.nil _|exact Sub.refl _|refine Sub.agg ?_|refine Sub.tup ?_|refine Sub.fn ?_|exact SubL.nil|refine SubL.cons ?_ ?_|refine Sub.sl _ ?_|exact SubE.nil|refine SubE.cons ?_ ?_) [] trivial rfl
  |refine OpX.lns hF rfl rfl rfl rfl rfl rfl rfl (fun hF=>?_)
  |refine OpX.ixs hF rfl rfl rfl rfl rfl rfl rfl rfl rfl rfl (fun m hF=>?_)
  |refine SetX.o z0e hF (fun x=>rfl) (fun x=>(by first|exact SubL.refl _|(repeat' first|exact SubL.nil|refine SubL.cons ?_ ?_|exact Sub.refl _|exact Sub.nil _|refine Sub.agg ?_))) (fun l hF=>?_)
  |exact ⟨_,hF,LeX.a []⟩
  |refine zsg hF (LeX.a []) (fun m v hF=>?_);unfold z4z at hF
  |exact ⟨_,hF,LeX.a []⟩
  |refine zsh hF (LeX.a []) (fun m v hF=>?_);unfold z74 at hF
  |refine And.intro ⟨by kernel_rfl,by kernel_rfl⟩ ?_
  |refine EqX.mk (by first|rfl|kernel_rfl) ?_
def M_run_unique (m0:(List z00)):List (Nat×Ent):=[(200000,.row 77 3 (m0.map z0e))]
def znk (r:(List z00)):List (Nat×Ent):=[(260000,.row 77 3 (r.map z0e))]
def zyd (r:(List z00)):AV:=.row 260000
def Z_run_unique (r:(List z00)):AS:=⟨[(4,.row 260000)],znk r⟩
theorem con_run_unique {n m0 r}(hF:ziq n m0=some r):ConG E0.P none (CalF E0.P 58 0) [.row 200000,.fn 59 []] [] (M_run_unique m0) (zyd r) (znk r):=by
 unfold ziq at hF
 refine ConG.walk (E:=(E0p 2)) (caps:=[]) _ Tryz.func58 rfl rfl rfl rfl rfl ?_
 repeat' first
  |refine AW.frbO hF 3 rfl rfl (fun hF=>?_)
  |refine AW.regO hF (fun hF=>?_)
  |refine AW.stepU [2] ?_;conv=>whnf
  |refine zd1.oI hF 200000 (fun r=>r) z0e (fun _=>AV.tup []) rfl (fun a h=>(ConC.env rfl (sortCf_con h))) rfl rfl rfl (fun a hF=>?_)
  |refine zd1.oM (zdj 10 hF) [(200000,200000)] [(260000,11000000)] _ _ z9z zci [200000] (fun a h=>ConG.up (zvg h)) (z08 Tryz.func87 rfl rfl) rfl rfl rfl ⟨⟨rfl,rfl⟩,trivial⟩ (fun a=>⟨rfl,rfl,rfl,rfl,rfl,rfl,rfl,rfl⟩) (fun a hF=>?_)
  |refine GX.o (res:=zyd) (meF:=znk) hF ?_;exact GX.mk (Z_run_unique _) (LeX.a [(260000,11000000)]) rfl _ rfl (by repeat' first|exact Sub.nil _|exact Sub.refl _|refine Sub.agg ?_|refine Sub.tup ?_|refine Sub.fn ?_|exact SubL.nil|refine SubL.cons ?_ ?_|refine Sub.sl _ ?_|exact SubE.nil|refine SubE.cons ?_ ?_) [] trivial rfl
def zen (r:z01):AV:=.agg [aI (r.fSource),aI (r.fSeq),aI (r.fType),aI (r.fTime),.sl 3 (r.fValues.map z06)]
theorem zgm {n a0 a1 r}(hF:z2h n a0 a1=some r):Con E0 false 36 [aI (a0),aI (a1)] (zen r):=by
 unfold z2h at hF
 refine Con.walk _ Tryz.func36 rfl (z08 Tryz.func36 rfl rfl) rfl (Or.inl rfl) ?_
 repeat' first
  |refine AW.step ?_;conv=>whnf
  |exact RetX.oA hF
def zgs (r:z05):AV:=.agg [aI (r.fVars),aI (r.fScopes),.sl 1 (r.fStates.map z0c),.sl 17 (r.fEdges.map z0d)]
theorem zo7 {n r}(hF:zdq n=some r):Con E0 false 37 [] (zgs r):=by
 unfold zdq at hF
 refine Con.walk _ Tryz.func37 rfl (z08 Tryz.func37 rfl rfl) rfl (Or.inl rfl) ?_
 repeat' first
  |refine AW.step ?_;conv=>whnf
  |refine z0m.o hF z9y (fun a h=>zbg h) (fun a hF=>?_)
  |refine MakX.o z0c hF (by first|exact SubL.refl _|(repeat' first|exact SubL.nil|refine SubL.cons ?_ ?_|exact Sub.refl _|exact Sub.nil _|refine Sub.agg ?_)) (fun l hF=>?_)
  |refine And.intro ⟨by kernel_rfl,by kernel_rfl⟩ ?_
  |refine EqX.mk (by first|rfl|kernel_rfl) ?_
  |exact RetX.oA hF
def zyc (r:Bool):AV:=.bool (r)
theorem con_stream_placed {n a0 r}(hF:zex n a0=some r):Con E0 true 102 [.agg [aI (a0.fSource),aI (a0.fSeq),aI (a0.fType),aI (a0.fTime),.sl 3 (a0.fValues.map z06)]] (zyc r):=by
 unfold zex at hF
 refine Con.walk _ Tryz.func102 rfl (z08 Tryz.func102 rfl rfl) rfl (Or.inr rfl) ?_
 repeat' first
  |refine AW.step ?_;conv=>whnf
  |refine z0v.o hF (fun hF=>?_) (fun hF=>?_)
  |refine z0v.f ?_
  |exact RetX.oA hF
def R_event_Ref (r:z1g):AV:=.agg [aI (r.fTime),aI (r.fSource),aI (r.fSeq)]
theorem con_event_Ref {n a0 r}(hF:zls n a0=some r):Con E0 true 130 [.agg [aI (a0.fSource),aI (a0.fSeq),aI (a0.fType),aI (a0.fTime),.sl 3 (a0.fValues.map z06)]] (R_event_Ref r):=by
 unfold zls at hF
 refine Con.walk _ Tryz.func130 rfl (z08 Tryz.func130 rfl rfl) rfl (Or.inr rfl) ?_
 repeat' first
  |refine AW.step ?_;conv=>whnf
  |exact RetX.oA hF
def zyi (r:Int):AV:=aI (r)
theorem con_event_Compare {n a0 a1 r}(hF:zf1 n a0 a1=some r):Con E0 true 103 [.agg [aI (a0.fSource),aI (a0.fSeq),aI (a0.fType),aI (a0.fTime),.sl 3 (a0.fValues.map z06)],.agg [aI (a1.fSource),aI (a1.fSeq),aI (a1.fType),aI (a1.fTime),.sl 3 (a1.fValues.map z06)]] (zyi r):=by
 unfold zf1 at hF
 refine Con.walk _ Tryz.func103 rfl (z08 Tryz.func103 rfl rfl) rfl (Or.inr rfl) ?_
 repeat' first
  |refine AW.step ?_;conv=>whnf
  |refine z0v.o hF (fun hF=>?_) (fun hF=>?_)
  |refine z0m.o hF R_event_Ref (fun a h=>con_event_Ref h) (fun a hF=>?_)
  |refine z0m.o hF zdp (fun a h=>zcl h) (fun a hF=>?_)
  |refine z0m.o hF zz3 (fun a h=>zqh h) (fun a hF=>?_)
  |refine And.intro ⟨by kernel_rfl,by kernel_rfl⟩ ?_
  |refine EqX.mk (by first|rfl|kernel_rfl) ?_
  |exact RetX.oA hF
def R_stream_of (r:z56):AV:=.agg [aI (r.fsource),aI (r.fseq)]
theorem con_stream_of {n a0 r}(hF:zg1 n a0=some r):Con E0 true 104 [.agg [aI (a0.fSource),aI (a0.fSeq),aI (a0.fType),aI (a0.fTime),.sl 3 (a0.fValues.map z06)]] (R_stream_of r):=by
 unfold zg1 at hF
 refine Con.walk _ Tryz.func104 rfl (z08 Tryz.func104 rfl rfl) rfl (Or.inr rfl) ?_
 repeat' first
  |refine AW.step ?_;conv=>whnf
  |exact RetX.oA hF
theorem eqK_163 (a b:z56):eqK (zaj a) (zaj b)=some (decide (a=b)):=by cases a;cases b;simp [zaj,eqK,eqL,eq1,aI,zqi]
def S_stream_Check_l1 (a0:(List z01))(v1_0:Int×(List (z56×Bool))):AS:=⟨[(0,.sl 5 (a0.map z04)),(3,.row 9),(10,.sl 5 (a0.map z04)),(11,aI (((a0.map z04).length:Int))),(12,aI (v1_0.1))],[(9,.mp (List.map (encM zaj AV.bool) (v1_0.2)))]⟩
theorem stream_Check_l1_o {n a0 k1_0_0}:z26 E0 43 (z9d n a0 k1_0_0) (S_stream_Check_l1 a0):=LoopA.oT fun _=>rfl
def y02 (r:Int):AV:=aI (r)
theorem con_stream_Check {n a0 r}(hF:zfv n a0=some r):Con E0 true 71 [.sl 5 (a0.map z04)] (y02 r):=by
 unfold zfv at hF
 refine Con.walk _ Tryz.func71 rfl (z08 Tryz.func71 rfl rfl) rfl (Or.inr rfl) ?_
 repeat' first
  |refine AW.step ?_;conv=>whnf
  |refine z0v.o hF (fun hF=>?_) (fun hF=>?_)
  |refine z0v.f ?_
  |refine IdxX.o z04 hF (fun x hF=>?_)
  |refine z0m.o hF zyc (fun a h=>con_stream_placed h) (fun a hF=>?_)
  |refine z0m.o hF zyi (fun a h=>con_event_Compare h) (fun a hF=>?_)
  |refine z0m.o hF R_stream_of (fun a h=>con_stream_of h) (fun a hF=>?_)
  |refine LkX.o zaj AV.bool hF (by first|rfl|kernel_rfl) eqK_163 (by repeat' first|exact Sub.nil _|exact Sub.refl _|refine Sub.agg ?_|refine Sub.tup ?_|refine Sub.fn ?_|exact SubL.nil|refine SubL.cons ?_ ?_|refine Sub.sl _ ?_|exact SubE.nil|refine SubE.cons ?_ ?_) (fun v b hF=>?_)
  |refine UpX.o zaj AV.bool hF (by first|rfl|kernel_rfl) eqK_163 (by repeat' first|exact Sub.nil _|exact Sub.refl _|refine Sub.agg ?_|refine Sub.tup ?_|refine Sub.fn ?_|exact SubL.nil|refine SubL.cons ?_ ?_|refine Sub.sl _ ?_|exact SubE.nil|refine SubE.cons ?_ ?_) (fun l hF=>?_)
  |exact ⟨_,hF,LeX.a []⟩
  |refine stream_Check_l1_o hF (LeX.a []) (fun m v hF=>?_);unfold z9d at hF
  |refine And.intro ⟨by kernel_rfl,by kernel_rfl⟩ ?_
  |exact RetX.oA hF
theorem eqK_108 (a b:z1g):eqK (z7v a) (z7v b)=some (decide (a=b)):=by cases a;cases b;simp [z7v,eqK,eqL,eq1,aI,zqi]
def zsk:Option z0s->AV
 |none=>.nilp
 |some x=>.ref [aI (x.fa.fVars),aI (x.fa.fScopes),.sl 1 (x.fa.fStates.map z0c),.sl 17 (x.fa.fEdges.map z0d),.mapv (List.map (encM z7v z04) (x.fheld))]
def S_run_begin_l1 (a1:(List z01))(a0:z05)(v1_0:Int×(List (z1g×z01))):AS:=⟨[(8,.ptr 24 0),(25,.sl 5 (a1.map z04)),(26,aI (((a1.map z04).length:Int))),(27,aI (v1_0.1))],[(24,.box 133 [aI (a0.fVars),aI (a0.fScopes),.sl 1 (a0.fStates.map z0c),.sl 17 (a0.fEdges.map z0d),.row 22]),(22,.mp (List.map (encM z7v z04) (v1_0.2)))]⟩
theorem run_begin_l1_o {n a1 a0 k1_0_0}:z26 E0 40 (zdy n a1 a0 k1_0_0) (S_run_begin_l1 a1 a0):=LoopA.oT fun _=>rfl
def zu0 (r:(Option z0s)×Int):AV:=.tup [zsk (r.1),aI (r.2)]
theorem con_run_begin {n a0 a1 r}(hF:zhx n a0 a1=some r):Con E0 false 39 [.agg [aI (a0.fVars),aI (a0.fScopes),.sl 1 (a0.fStates.map z0c),.sl 17 (a0.fEdges.map z0d)],.sl 5 (a1.map z04)] (zu0 r):=by
 unfold zhx at hF
 refine Con.walk _ Tryz.func39 rfl (z08 Tryz.func39 rfl rfl) rfl (Or.inl rfl) ?_
 repeat' first
  |refine AW.step ?_;conv=>whnf
  |refine z0v.o hF (fun hF=>?_) (fun hF=>?_)
  |refine z0m.o hF zro (fun a h=>y0p h) (fun a hF=>?_)
  |refine z0m.o hF y02 (fun a h=>con_stream_Check h) (fun a hF=>?_)
  |refine IdxX.o z04 hF (fun x hF=>?_)
  |refine OpX.nckP rfl rfl rfl rfl rfl ?_
  |refine z0m.o hF R_run_ref (fun a h=>con_run_ref h) (fun a hF=>?_)
  |refine UpX.o z7v z04 hF (by first|rfl|kernel_rfl) eqK_108 (by repeat' first|exact Sub.nil _|exact Sub.refl _|refine Sub.agg ?_|refine Sub.tup ?_|refine Sub.fn ?_|exact SubL.nil|refine SubL.cons ?_ ?_|refine Sub.sl _ ?_|exact SubE.nil|refine SubE.cons ?_ ?_) (fun l hF=>?_)
  |exact ⟨_,hF,LeX.a []⟩
  |refine run_begin_l1_o hF (LeX.a []) (fun m v hF=>?_);unfold zdy at hF
  |refine And.intro ⟨by kernel_rfl,by kernel_rfl⟩ ?_
  |exact RetX.oA hF
def R_run_Begin (r:z00):AV:=.agg [aI (r.fState),.sl 4 (r.fBindings.map z0a),.sl 2 (r.fStarts.map z09)]
theorem con_run_Begin {n r}(hF:zlp n=some r):Con E0 false 40 [] (R_run_Begin r):=by
 unfold zlp at hF
 refine Con.walk _ Tryz.func40 rfl (z08 Tryz.func40 rfl rfl) rfl (Or.inl rfl) ?_
 repeat' first
  |refine AW.step ?_;conv=>whnf
  |exact RetX.oA hF
def zyk (a0:z0s)(a1:z00)(a2:z01):List (Nat×Ent):=[]
def zbp (r:z0s×z00×z01):List (Nat×Ent):=[(3,.box 94 [.ref [aI (r.1.fa.fVars),aI (r.1.fa.fScopes),.sl 1 (r.1.fa.fStates.map z0c),.sl 17 (r.1.fa.fEdges.map z0d),.mapv (List.map (encM z7v z04) (r.1.fheld))]]),(4,.box 77 [aI (r.2.1.fState),.sl 4 (r.2.1.fBindings.map z0a),.sl 2 (r.2.1.fStarts.map z09)]),(5,.box 66 [aI (r.2.2.fSource),aI (r.2.2.fSeq),aI (r.2.2.fType),aI (r.2.2.fTime),.sl 3 (r.2.2.fValues.map z06)])]
def zeo (r:z0s×z00×z01):AV:=.fn 105 [.ptr 3 0,.ptr 4 0,.ptr 5 0]
def zxu (r:z0s×z00×z01):AS:=⟨[(6,.fn 105 [.ptr 3 0,.ptr 4 0,.ptr 5 0])],zbp r⟩
theorem zt1 {n a0 a1 a2 r}(hF:zby n a0 a1 a2=some r):ConG E0.P none (CalF E0.P 73 0) [.ref [aI (a0.fa.fVars),aI (a0.fa.fScopes),.sl 1 (a0.fa.fStates.map z0c),.sl 17 (a0.fa.fEdges.map z0d),.mapv (List.map (encM z7v z04) (a0.fheld))],.agg [aI (a1.fState),.sl 4 (a1.fBindings.map z0a),.sl 2 (a1.fStarts.map z09)],.agg [aI (a2.fSource),aI (a2.fSeq),aI (a2.fType),aI (a2.fTime),.sl 3 (a2.fValues.map z06)]] [] (zyk a0 a1 a2) (zeo r) (zbp r):=by
 unfold zby at hF
 refine ConG.walk (E:=(E0p 3)) (caps:=[]) _ Tryz.func73 rfl rfl rfl rfl rfl ?_
 repeat' first
  |refine AW.step ?_;conv=>whnf
  |refine GX.o (res:=zeo) (meF:=zbp) hF ?_;exact GX.mk (zxu _) (LeX.a []) rfl _ rfl (by repeat' first|exact Sub.nil _|exact Sub.refl _|refine Sub.agg ?_|refine Sub.tup ?_|refine Sub.fn ?_|exact SubL.nil|refine SubL.cons ?_ ?_|refine Sub.sl _ ?_|exact SubE.nil|refine SubE.cons ?_ ?_) [] trivial rfl
def zrq (m0:(List z00))(m1:(List z03)):List (Nat×Ent):=[(100000,.box 29 [.row 200000]),(200000,.row 77 3 (m0.map z0e)),(100001,.box 30 [.row 200001]),(200001,.row 83 1 (m1.map z0g))]
def z3w (r:(List z00)×(List z03)):List (Nat×Ent):=[(100000,.box 29 [.row 250000]),(250000,.row 77 3 (r.1.map z0e)),(100001,.box 30 [.row 250001]),(250001,.row 83 1 (r.2.map z0g))]
def zg5 (r:(List z00)×(List z03)):AS:=⟨[(8,.ptr 100000 0),(9,.ptr 100001 0)],z3w r⟩
def zzp (a1:(List z0u))(a0:z0s)(x1:Nat)(v1_0:Int×(List (List z01))):AS:=⟨[(0,.ref [aI (a0.fa.fVars),aI (a0.fa.fScopes),.sl 1 (a0.fa.fStates.map z0c),.sl 17 (a0.fa.fEdges.map z0d),.mapv (List.map (encM z7v z04) (a0.fheld))]),(4,.ptr 4 0),(5,.ptr 5 0),(15,.sl 4 (a1.map z0a)),(16,aI (((a1.map z0a).length:Int))),(17,aI (v1_0.1))],[(4,.box 167 [.nils]),(5,.box 167 [.cont (x1) 13]),(13,.nest 26 (List.map (enR z04 66 5) (v1_0.2)))]⟩
theorem zz5 {n a1 a0 x1 k1_0_0}:z26 E0 43 (z8z n a1 a0 x1 k1_0_0) (zzp a1 a0 x1):=LoopA.oT fun _=>rfl
def zrj (r:z0i):AV:=.agg [.sl 1 (List.map (fun q=>AV.sl 5 (List.map z04 q)) (r.fVars))]
theorem y0k {n a0 a1 r}(hF:zct n a0 a1=some r):Con E0 false 106 [.ref [aI (a0.fa.fVars),aI (a0.fa.fScopes),.sl 1 (a0.fa.fStates.map z0c),.sl 17 (a0.fa.fEdges.map z0d),.mapv (List.map (encM z7v z04) (a0.fheld))],.sl 4 (a1.map z0a)] (zrj r):=by
 unfold zct at hF
 refine Con.walk _ Tryz.func106 rfl (z08 Tryz.func106 rfl rfl) rfl (Or.inl rfl) ?_
 repeat' first
  |refine AW.nstO (er:=z04) 66 5 hF 13 rfl (fun hF=>?_)
  |refine AW.frrO (ety:=66) (sz:=5) z04 hF 13 rfl (fun hF=>?_)
  |refine AW.regO hF (fun hF=>?_)
  |refine AW.stepU [7,2] ?_;conv=>whnf
  |refine z0v.o hF (fun hF=>?_) (fun hF=>?_)
  |refine OpX.nckR rfl rfl rfl rfl ?_
  |refine MakX.on hF (fun m hF=>?_)
  |refine IdxX.o z0a hF (fun x hF=>?_)
  |refine OpX.ixc hF rfl rfl rfl rfl rfl rfl rfl rfl (fun hF=>?_)
  |refine OpX.ntk z04 hF rfl rfl rfl rfl rfl rfl rfl rfl rfl rfl (fun q hF=>?_)
  |refine OpX.lkv z7v z04 hF eqK_108 rfl rfl rfl rfl rfl rfl rfl rfl rfl rfl (by first|rfl|kernel_rfl) (by repeat' first|exact Sub.nil _|exact Sub.refl _|refine Sub.agg ?_|refine Sub.tup ?_|refine Sub.fn ?_|exact SubL.nil|refine SubL.cons ?_ ?_|refine Sub.sl _ ?_|exact SubE.nil|refine SubE.cons ?_ ?_) (fun v b hF=>?_)
  |refine AppX.o z04 hF (by first|exact SubR.refl _|(repeat' first|exact SubR.nil|refine SubR.cons ?_ ?_|exact SubL.nil|refine SubL.cons ?_ ?_|exact Sub.refl _|exact Sub.nil _)) (fun l hF=>?_)
  |refine OpX.npt z04 hF rfl rfl rfl rfl rfl rfl rfl rfl rfl rfl rfl (fun l hF=>?_)
  |exact ⟨_,hF,LeX.a []⟩
  |refine zz5 hF (LeX.a []) (fun m v hF=>?_);unfold z8z at hF
  |refine And.intro ⟨by kernel_rfl,by kernel_rfl⟩ ?_
  |refine EqX.mk (by first|rfl|kernel_rfl) ?_
  |exact RetX.oA hF
end Go.Proofs.YtjpknpjjcddnnaaGreat
