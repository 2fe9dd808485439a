/- What some functions compute, over plain values. Printed by a program of mine (gen_fun.lean). -/
import Derived.Test.YtjpknpjjcddnnaaGreatK29
import Derived.Test.YtjpknpjjcddnnaaGreatK21
set_option linter.unusedVariables false
set_option linter.unusedSimpArgs false
set_option maxRecDepth 100000
set_option maxHeartbeats 8000000
namespace Go.Proofs.YtjpknpjjcddnnaaGreat
open Go.RowKit
theorem zt8 {n m0 m1 r}(hF:zcg n m0 m1=some r):ConG E0.P none (CalF E0.P 250 0) [.ptr 100000 0,.ptr 100001 0] [] (zyn m0 m1) (zet r) (zc2 r):=by
 unfold zcg at hF
 refine ConG.walk (E:=(E0p 2)) (caps:=[]) _ Tryz.func250 rfl rfl rfl rfl rfl ?_
 repeat' first
  |refine AW.step ?_;conv=>whnf
  |refine GX.o (res:=zet) (meF:=zc2) hF ?_;exact GX.mk (zxy _) (LeX.a []) rfl _ rfl (by repeat' first|exact Sub.nil _|exact Sub.refl _|refine Sub.agg ?_|refine Sub.tup ?_|refine Sub.fn ?_|exact SubL.nil|refine SubL.cons ?_ ?_|refine Sub.sl _ ?_|exact SubE.nil|refine SubE.cons ?_ ?_) [] trivial rfl
def zym (m0:z03)(m1:z03):List (Nat×Ent):=[(100000,.box 45 [aI (m0.fKind),aI (m0.fNum),.str (m0.fText)]),(100001,.box 45 [aI (m1.fKind),aI (m1.fNum),.str (m1.fText)])]
def zc1 (r:z03×z03×z03):List (Nat×Ent):=[(2,.box 45 [aI (r.1.fKind),aI (r.1.fNum),.str (r.1.fText)]),(100000,.box 45 [aI (r.2.1.fKind),aI (r.2.1.fNum),.str (r.2.1.fText)]),(100001,.box 45 [aI (r.2.2.fKind),aI (r.2.2.fNum),.str (r.2.2.fText)])]
def zes (r:z03×z03×z03):AV:=.agg [aI (r.1.fKind),aI (r.1.fNum),.str (r.1.fText)]
def zxx (r:z03×z03×z03):AS:=⟨[(2,.ptr 2 0),(0,.ptr 100000 0),(1,.ptr 100001 0)],zc1 r⟩
theorem zt7 {n m0 m1 r}(hF:zcf n m0 m1=some r):ConG E0.P none (CalF E0.P 251 0) [.ptr 100000 0,.ptr 100001 0] [] (zym m0 m1) (zes r) (zc1 r):=by
 unfold zcf at hF
 refine ConG.walk (E:=(E0p 2)) (caps:=[]) _ Tryz.func251 rfl rfl rfl rfl rfl ?_
 repeat' first
  |refine AW.step ?_;conv=>whnf
  |refine GX.o (res:=zes) (meF:=zc1) hF ?_;exact GX.mk (zxx _) (LeX.a []) rfl _ rfl (by repeat' first|exact Sub.nil _|exact Sub.refl _|refine Sub.agg ?_|refine Sub.tup ?_|refine Sub.fn ?_|exact SubL.nil|refine SubL.cons ?_ ?_|refine Sub.sl _ ?_|exact SubE.nil|refine SubE.cons ?_ ?_) [] trivial rfl
def zyl (m0:z03)(m1:z03):List (Nat×Ent):=[(100000,.box 45 [aI (m0.fKind),aI (m0.fNum),.str (m0.fText)]),(100001,.box 45 [aI (m1.fKind),aI (m1.fNum),.str (m1.fText)])]
def zc0 (r:z03×z03×z03):List (Nat×Ent):=[(2,.box 45 [aI (r.1.fKind),aI (r.1.fNum),.str (r.1.fText)]),(100000,.box 45 [aI (r.2.1.fKind),aI (r.2.1.fNum),.str (r.2.1.fText)]),(100001,.box 45 [aI (r.2.2.fKind),aI (r.2.2.fNum),.str (r.2.2.fText)])]
def zer (r:z03×z03×z03):AV:=.agg [aI (r.1.fKind),aI (r.1.fNum),.str (r.1.fText)]
def zxw (r:z03×z03×z03):AS:=⟨[(2,.ptr 2 0),(0,.ptr 100000 0),(1,.ptr 100001 0)],zc0 r⟩
theorem zt6 {n m0 m1 r}(hF:zce n m0 m1=some r):ConG E0.P none (CalF E0.P 252 0) [.ptr 100000 0,.ptr 100001 0] [] (zyl m0 m1) (zer r) (zc0 r):=by
 unfold zce at hF
 refine ConG.walk (E:=(E0p 2)) (caps:=[]) _ Tryz.func252 rfl rfl rfl rfl rfl ?_
 repeat' first
  |refine AW.step ?_;conv=>whnf
  |refine GX.o (res:=zer) (meF:=zc0) hF ?_;exact GX.mk (zxw _) (LeX.a []) rfl _ rfl (by repeat' first|exact Sub.nil _|exact Sub.refl _|refine Sub.agg ?_|refine Sub.tup ?_|refine Sub.fn ?_|exact SubL.nil|refine SubL.cons ?_ ?_|refine Sub.sl _ ?_|exact SubE.nil|refine SubE.cons ?_ ?_) [] trivial rfl
def zyk (m0:z03):List (Nat×Ent):=[(100000,.box 45 [aI (m0.fKind),aI (m0.fNum),.str (m0.fText)])]
def zbz (r:z03×z03):List (Nat×Ent):=[(1,.box 45 [aI (r.1.fKind),aI (r.1.fNum),.str (r.1.fText)]),(100000,.box 45 [aI (r.2.fKind),aI (r.2.fNum),.str (r.2.fText)])]
def zeq (r:z03×z03):AV:=.agg [aI (r.1.fKind),aI (r.1.fNum),.str (r.1.fText)]
def zxv (r:z03×z03):AS:=⟨[(1,.ptr 1 0),(0,.ptr 100000 0)],zbz r⟩
theorem zt5 {n m0 r}(hF:zcd n m0=some r):ConG E0.P none (CalF E0.P 253 0) [.ptr 100000 0] [] (zyk m0) (zeq r) (zbz r):=by
 unfold zcd at hF
 refine ConG.walk (E:=(E0p 1)) (caps:=[]) _ Tryz.func253 rfl rfl rfl rfl rfl ?_
 repeat' first
  |refine AW.step ?_;conv=>whnf
  |refine GX.o (res:=zeq) (meF:=zbz) hF ?_;exact GX.mk (zxv _) (LeX.a []) rfl _ rfl (by repeat' first|exact Sub.nil _|exact Sub.refl _|refine Sub.agg ?_|refine Sub.tup ?_|refine Sub.fn ?_|exact SubL.nil|refine SubL.cons ?_ ?_|refine Sub.sl _ ?_|exact SubE.nil|refine SubE.cons ?_ ?_) [] trivial rfl
def zyj (m0:z03):List (Nat×Ent):=[(100000,.box 45 [aI (m0.fKind),aI (m0.fNum),.str (m0.fText)])]
def zby (r:z03×z03):List (Nat×Ent):=[(1,.box 45 [aI (r.1.fKind),aI (r.1.fNum),.str (r.1.fText)]),(100000,.box 45 [aI (r.2.fKind),aI (r.2.fNum),.str (r.2.fText)])]
def zep (r:z03×z03):AV:=.agg [aI (r.1.fKind),aI (r.1.fNum),.str (r.1.fText)]
def zxu (r:z03×z03):AS:=⟨[(1,.ptr 1 0),(0,.ptr 100000 0)],zby r⟩
theorem zt4 {n m0 r}(hF:zcc n m0=some r):ConG E0.P none (CalF E0.P 254 0) [.ptr 100000 0] [] (zyj m0) (zep r) (zby r):=by
 unfold zcc at hF
 refine ConG.walk (E:=(E0p 1)) (caps:=[]) _ Tryz.func254 rfl rfl rfl rfl rfl ?_
 repeat' first
  |refine AW.step ?_;conv=>whnf
  |refine GX.o (res:=zep) (meF:=zby) hF ?_;exact GX.mk (zxu _) (LeX.a []) rfl _ rfl (by repeat' first|exact Sub.nil _|exact Sub.refl _|refine Sub.agg ?_|refine Sub.tup ?_|refine Sub.fn ?_|exact SubL.nil|refine SubL.cons ?_ ?_|refine Sub.sl _ ?_|exact SubE.nil|refine SubE.cons ?_ ?_) [] trivial rfl
def zlm (r:z03):AV:=.agg [aI (r.fKind),aI (r.fNum),.str (r.fText)]
theorem zxi {n a0 a1 a2 r}(hF:zbk n a0 a1 a2=some r):Con E0 true 247 [aI (a0),.agg [aI (a1.fKind),aI (a1.fNum),.str (a1.fText)],.agg [aI (a2.fKind),aI (a2.fNum),.str (a2.fText)]] (zlm r):=by
 unfold zbk at hF
 refine Con.walk _ Tryz.func247 rfl (z08 Tryz.func247 rfl rfl) rfl (Or.inr rfl) ?_
 repeat' first
  |refine AW.step ?_;conv=>whnf
  |refine NatX.oS hF rfl (fun hF=>?_) (fun hF=>?_)
  |(cases hF;done)
  |refine z0m.o hF ziw (fun a h=>zt9 h) (fun a hF=>?_)
  |refine zbm.oM (zcu 15 hF) [(100000,4),(100001,5)] [(2,16000000),(100000,4),(100001,5)] _ _ zc2 zet [] (fun a h=>ConG.up (zt8 h)) (z08 Tryz.func250 rfl rfl) rfl rfl rfl ⟨⟨rfl,rfl⟩,⟨⟨rfl,rfl⟩,trivial⟩⟩ (fun a=>⟨rfl,rfl,rfl,rfl,rfl,rfl,rfl,rfl⟩) (fun a hF=>?_)
  |refine zbm.oM (zcu 15 hF) [(100000,4),(100001,5)] [(2,16000000),(100000,4),(100001,5)] _ _ zc1 zes [] (fun a h=>ConG.up (zt7 h)) (z08 Tryz.func251 rfl rfl) rfl rfl rfl ⟨⟨rfl,rfl⟩,⟨⟨rfl,rfl⟩,trivial⟩⟩ (fun a=>⟨rfl,rfl,rfl,rfl,rfl,rfl,rfl,rfl⟩) (fun a hF=>?_)
  |refine zbm.oM (zcu 15 hF) [(100000,4),(100001,5)] [(2,16000000),(100000,4),(100001,5)] _ _ zc0 zer [] (fun a h=>ConG.up (zt6 h)) (z08 Tryz.func252 rfl rfl) rfl rfl rfl ⟨⟨rfl,rfl⟩,⟨⟨rfl,rfl⟩,trivial⟩⟩ (fun a=>⟨rfl,rfl,rfl,rfl,rfl,rfl,rfl,rfl⟩) (fun a hF=>?_)
  |refine zbm.oM (zcu 15 hF) [(100000,4)] [(1,16000000),(100000,4)] _ _ zbz zeq [] (fun a h=>ConG.up (zt5 h)) (z08 Tryz.func253 rfl rfl) rfl rfl rfl ⟨⟨rfl,rfl⟩,trivial⟩ (fun a=>⟨rfl,rfl,rfl,rfl,rfl,rfl,rfl,rfl⟩) (fun a hF=>?_)
  |refine zbm.oM (zcu 15 hF) [(100000,5)] [(1,16000000),(100000,5)] _ _ zby zep [] (fun a h=>ConG.up (zt4 h)) (z08 Tryz.func254 rfl rfl) rfl rfl rfl ⟨⟨rfl,rfl⟩,trivial⟩ (fun a=>⟨rfl,rfl,rfl,rfl,rfl,rfl,rfl,rfl⟩) (fun a hF=>?_)
  |exact RetX.oA hF
def znb (r:z0l):AV:=.agg [aI (r.fKind),aI (r.fCount),aI (r.fValue.fKind),aI (r.fValue.fNum),.str (r.fValue.fText)]
theorem zza {n a0 a1 r}(hF:ze9 n a0 a1=some r):Con E0 true 240 [.agg [aI (a0.fKind),aI (a0.fCount),aI (a0.fValue.fKind),aI (a0.fValue.fNum),.str (a0.fValue.fText)],.agg [aI (a1.fKind),aI (a1.fCount),aI (a1.fValue.fKind),aI (a1.fValue.fNum),.str (a1.fValue.fText)]] (znb r):=by
 unfold ze9 at hF
 refine Con.walk _ Tryz.func240 rfl (z08 Tryz.func240 rfl rfl) rfl (Or.inr rfl) ?_
 repeat' first
  |refine AW.step ?_;conv=>whnf
  |refine z0v.o hF (fun hF=>?_) (fun hF=>?_)
  |refine z0m.o hF zlm (fun a h=>zxi h) (fun a hF=>?_)
  |refine And.intro ⟨by kernel_rfl,by kernel_rfl⟩ ?_
  |exact RetX.oA hF
def zuc (r:z0l):AV:=.agg [aI (r.fKind),aI (r.fCount),aI (r.fValue.fKind),aI (r.fValue.fNum),.str (r.fValue.fText)]
theorem y1o {n a0 a1 a2 r}(hF:zfx n a0 a1 a2=some r):Con E0 true 239 [.agg [aI (a0.fKind),aI (a0.fCount),aI (a0.fValue.fKind),aI (a0.fValue.fNum),.str (a0.fValue.fText)],.agg [aI (a1.fKind),aI (a1.fNum),.str (a1.fText)],.ref [aI (a2)]] (zuc r):=by
 unfold zfx at hF
 refine Con.walk _ Tryz.func239 rfl (z08 Tryz.func239 rfl rfl) rfl (Or.inr rfl) ?_
 repeat' first
  |refine AW.step ?_;conv=>whnf
  |refine z0m.o hF zna (fun a h=>zz9 h) (fun a hF=>?_)
  |refine z0m.o hF znb (fun a h=>zza h) (fun a hF=>?_)
  |refine And.intro ⟨by kernel_rfl,by kernel_rfl⟩ ?_
  |exact RetX.oA hF
def zy9 (a2c0:Int)(a1:(List z03))(v1_0:Int×Int×Int×Int×Int×ByteArray):AS:=⟨[(2,.fn 239 [.ref [aI (a2c0)]]),(3,.ptr 3 0),(6,.ptr 6 0),(9,.sl 3 (a1.map z0a)),(10,aI (((a1.map z0a).length:Int))),(11,aI (v1_0.1))],[(3,.box 275 [aI (v1_0.2.1),aI (v1_0.2.2.1),aI (v1_0.2.2.2.1),aI (v1_0.2.2.2.2.1),.str (v1_0.2.2.2.2.2)]),(6,.box 275 [aI (0),aI (0),aI (0),aI (0),.str (ByteArray.empty)])]⟩
theorem zxr {n a2c0 a1 k1_0_0}:z27 E0 21 (z8e n a2c0 a1 k1_0_0) (zy9 a2c0 a1):=LoopA.oT fun _=>rfl
def znc (r:z0l):AV:=.agg [aI (r.fKind),aI (r.fCount),aI (r.fValue.fKind),aI (r.fValue.fNum),.str (r.fValue.fText)]
theorem zzb {n a0 a1 a2c0 r}(hF:zcb n a0 a1 a2c0=some r):Con E0 true 238 [.agg [aI (a0.fKind),aI (a0.fCount),aI (a0.fValue.fKind),aI (a0.fValue.fNum),.str (a0.fValue.fText)],.sl 3 (a1.map z0a),.fn 239 [.ref [aI (a2c0)]]] (znc r):=by
 unfold zcb at hF
 refine Con.walk _ Tryz.func238 rfl (z08 Tryz.func238 rfl rfl) rfl (Or.inr rfl) ?_
 repeat' first
  |refine AW.step ?_;conv=>whnf
  |refine z0v.o hF (fun hF=>?_) (fun hF=>?_)
  |refine IdxX.o z0a hF (fun x hF=>?_)
  |refine z0m.o hF zuc (fun a h=>y1o h) (fun a hF=>?_)
  |exact ⟨_,hF,LeX.a []⟩
  |refine zxr hF (LeX.a []) (fun m v hF=>?_);unfold z8e at hF
  |exact RetX.oA hF
def zzt (a0:z0l)(w1_0:Bool):AS:=⟨[(1,.ptr 1 0),(10,.bool (w1_0))],[(1,.box 275 [aI (a0.fKind),aI (a0.fCount),aI (a0.fValue.fKind),aI (a0.fValue.fNum),.str (a0.fValue.fText)])]⟩
theorem zzk {n a0}:z3v E0 77 (z7c n a0) (zzt a0):=AW.jT
def zro (r:Int):AV:=aI (r)
theorem y0q {n a0 r}(hF:zd9 n a0=some r):Con E0 true 248 [.agg [aI (a0.fKind),aI (a0.fCount),aI (a0.fValue.fKind),aI (a0.fValue.fNum),.str (a0.fValue.fText)]] (zro r):=by
 unfold zd9 at hF
 refine Con.walk _ Tryz.func248 rfl (z08 Tryz.func248 rfl rfl) rfl (Or.inr rfl) ?_
 repeat' first
  |refine zzk hF (fun hF=>?_) (fun v hF=>?_);rotate_left;unfold z7c at hF
  |refine AW.regO hF (fun hF=>?_)
  |refine AW.stepU [3,7,9,11,6] ?_;conv=>whnf
  |refine z0v.o hF (fun hF=>?_) (fun hF=>?_)
  |refine z0v.t ?_
  |refine z0v.f ?_
  |refine z0m.o hF zi3 (fun a h=>zku h) (fun a hF=>?_)
  |refine z0m.o hF zgp (fun a h=>zgd h) (fun a hF=>?_)
  |refine z0m.o hF zi2 (fun a h=>zkt h) (fun a hF=>?_)
  |exact ⟨_,hF,LeX.a []⟩
  |refine EqX.mk (by first|rfl|kernel_rfl) ?_
  |exact RetX.oA hF
def zya (a1:z03)(a0:z0l)(w1_0:Bool):AS:=⟨[(2,.ptr 2 0),(3,.ptr 3 0),(4,.ptr 4 0),(29,.bool (w1_0))],[(2,.box 275 [aI (a0.fKind),aI (a0.fCount),aI (a0.fValue.fKind),aI (a0.fValue.fNum),.str (a0.fValue.fText)]),(3,.box 45 [aI (a1.fKind),aI (a1.fNum),.str (a1.fText)]),(4,.box 45 [aI (0),aI (0),.str (ByteArray.empty)])]⟩
theorem zxs {n a1 a0}:z3v E0 41 (z6t n a1 a0) (zya a1 a0):=AW.jT
def znd (r:z03×Int):AV:=.tup [.agg [aI (r.1.fKind),aI (r.1.fNum),.str (r.1.fText)],aI (r.2)]
theorem zzc {n a0 a1 r}(hF:z9x n a0 a1=some r):Con E0 true 242 [.agg [aI (a0.fKind),aI (a0.fCount),aI (a0.fValue.fKind),aI (a0.fValue.fNum),.str (a0.fValue.fText)],.agg [aI (a1.fKind),aI (a1.fNum),.str (a1.fText)]] (znd r):=by
 unfold z9x at hF
 refine Con.walk _ Tryz.func242 rfl (z08 Tryz.func242 rfl rfl) rfl (Or.inr rfl) ?_
 repeat' first
  |refine zxs hF (fun hF=>?_) (fun v hF=>?_);rotate_left;unfold z6t at hF
  |refine AW.regO hF (fun hF=>?_)
  |refine AW.stepU [9] ?_;conv=>whnf
  |refine z0v.o hF (fun hF=>?_) (fun hF=>?_)
  |refine z0m.o hF zro (fun a h=>y0q h) (fun a hF=>?_)
  |refine z0m.o hF zi1 (fun a h=>zks h) (fun a hF=>?_)
  |exact ⟨_,hF,LeX.a []⟩
  |exact RetX.oA hF
def S_aggregate_Of_l1 (a2:z03)(a1:(List z03))(a0:Int)(v1_0:Int):AS:=⟨[(1,.sl 3 (a1.map z0a)),(3,.ptr 3 0),(5,.ptr 5 0),(6,.ptr 6 0),(22,.sl 3 (a1.map z0a)),(23,aI (((a1.map z0a).length:Int))),(24,aI (v1_0))],[(3,.box 3 [aI (a0)]),(5,.box 45 [aI (a2.fKind),aI (a2.fNum),.str (a2.fText)]),(6,.box 45 [aI (0),aI (0),.str (ByteArray.empty)])]⟩
theorem aggregate_Of_l1_o {n a2 a1 a0 k1_0_0}:z27 E0 46 (zar n a2 a1 a0 k1_0_0) (S_aggregate_Of_l1 a2 a1 a0):=LoopA.oT fun _=>rfl
def y07 (r:z03×Int):AV:=.tup [.agg [aI (r.1.fKind),aI (r.1.fNum),.str (r.1.fText)],aI (r.2)]
theorem con_aggregate_Of {n a0 a1 a2 r}(hF:ze0 n a0 a1 a2=some r):Con E0 true 232 [aI (a0),.sl 3 (a1.map z0a),.agg [aI (a2.fKind),aI (a2.fNum),.str (a2.fText)]] (y07 r):=by
 unfold ze0 at hF
 refine Con.walk _ Tryz.func232 rfl (z08 Tryz.func232 rfl rfl) rfl (Or.inr rfl) ?_
 repeat' first
  |refine AW.step ?_;conv=>whnf
  |refine z0v.o hF (fun hF=>?_) (fun hF=>?_)
  |refine z0m.o hF zi3 (fun a h=>zku h) (fun a hF=>?_)
  |refine zbm.o hF znc (fun a h=>zzb h) (fun _=>Or.inr rfl) (fun a hF=>?_)
  |refine z0m.o hF znd (fun a h=>zzc h) (fun a hF=>?_)
  |refine IdxX.o z0a hF (fun x hF=>?_)
  |refine z0m.o hF zi1 (fun a h=>zks h) (fun a hF=>?_)
  |exact ⟨_,hF,LeX.a []⟩
  |refine aggregate_Of_l1_o hF (LeX.a []) (fun m v hF=>?_);unfold zar at hF
  |exact RetX.oA hF
def R_cmp_isNaN (r:Bool):AV:=.bool (r)
theorem con_cmp_isNaN {n a0 r}(hF:zlt n a0=some r):Con E0 true 112 [aI (a0)] (R_cmp_isNaN r):=by
 unfold zlt at hF
 refine Con.walk _ Tryz.func112 rfl (z08 Tryz.func112 rfl rfl) rfl (Or.inr rfl) ?_
 repeat' first
  |refine AW.step ?_;conv=>whnf
  |exact RetX.oA hF
def zbw (r:Int):AV:=aI (r)
theorem zat {n a0 a1 r}(hF:z2o n a0 a1=some r):Con E0 true 81 [aI (a0),aI (a1)] (zbw r):=by
 unfold z2o at hF
 refine Con.walk _ Tryz.func81 rfl (z08 Tryz.func81 rfl rfl) rfl (Or.inr rfl) ?_
 repeat' first
  |refine AW.step ?_;conv=>whnf
  |refine z0v.o hF (fun hF=>?_) (fun hF=>?_)
  |refine z0m.o hF R_cmp_isNaN (fun a h=>con_cmp_isNaN h) (fun a hF=>?_)
  |exact RetX.oA hF
def S_cmp_Or_l1 (a0:(List Int))(v1_0:Int):AS:=⟨[(3,aI (0)),(6,.sl 1 (a0.map aI)),(7,aI (((a0.map aI).length:Int))),(8,aI (v1_0))],[]⟩
end Go.Proofs.YtjpknpjjcddnnaaGreat
namespace Go.Proofs.YtjpknpjjcddnnaaGreat
open Go.RowKit
theorem cmp_Or_l1_o {n a0 k1_0_0}:z27 E0 18 (zi5 n a0 k1_0_0) (S_cmp_Or_l1 a0):=LoopA.oT fun _=>rfl
def zu4 (r:Int):AV:=aI (r)
theorem zk5 {n a0 r}(hF:zfw n a0=some r):Con E0 true 79 [.sl 1 (a0.map aI)] (zu4 r):=by
 unfold zfw at hF
 refine Con.walk _ Tryz.func79 rfl (z08 Tryz.func79 rfl rfl) rfl (Or.inr rfl) ?_
 repeat' first
  |refine AW.step ?_;conv=>whnf
  |refine z0v.o hF (fun hF=>?_) (fun hF=>?_)
  |refine IdxX.o aI hF (fun x hF=>?_)
  |exact ⟨_,hF,LeX.a []⟩
  |refine cmp_Or_l1_o hF (LeX.a []) (fun m v hF=>?_);unfold zi5 at hF
  |exact RetX.oA hF
def R_match_refs (r:Int):AV:=aI (r)
theorem con_match_refs {n a0 a1 r}(hF:zj3 n a0 a1=some r):Con E0 true 80 [.agg [aI (a0.fTime),aI (a0.fSource),aI (a0.fSeq)],.agg [aI (a1.fTime),aI (a1.fSource),aI (a1.fSeq)]] (R_match_refs r):=by
 unfold zj3 at hF
 refine Con.walk _ Tryz.func80 rfl (z08 Tryz.func80 rfl rfl) rfl (Or.inr rfl) ?_
 repeat' first
  |refine AW.step ?_;conv=>whnf
  |refine z0m.o hF zbw (fun a h=>zat h) (fun a hF=>?_)
  |refine z0m.o hF zu4 (fun a h=>zk5 h) (fun a hF=>?_)
  |refine And.intro ⟨by kernel_rfl,by kernel_rfl⟩ ?_
  |exact RetX.oA hF
def zrl (r:Int):AV:=aI (r)
theorem y0n {n a0 a1 r}(hF:zd4 n a0 a1=some r):Con E0 true 78 [.agg [aI (a0.fVar),aI (a0.fRef.fTime),aI (a0.fRef.fSource),aI (a0.fRef.fSeq)],.agg [aI (a1.fVar),aI (a1.fRef.fTime),aI (a1.fRef.fSource),aI (a1.fRef.fSeq)]] (zrl r):=by
 unfold zd4 at hF
 refine Con.walk _ Tryz.func78 rfl (z08 Tryz.func78 rfl rfl) rfl (Or.inr rfl) ?_
 repeat' first
  |refine AW.step ?_;conv=>whnf
  |refine z0m.o hF R_match_refs (fun a h=>con_match_refs h) (fun a hF=>?_)
  |refine z0m.o hF zbw (fun a h=>zat h) (fun a hF=>?_)
  |refine z0m.o hF zu4 (fun a h=>zk5 h) (fun a hF=>?_)
  |refine And.intro ⟨by kernel_rfl,by kernel_rfl⟩ ?_
  |exact RetX.oA hF
def ztx (a1:(List z0p))(a0:(List z0p))(v1_0:Int):AS:=⟨[(0,.sl 4 (a0.map z06)),(1,.sl 4 (a1.map z06)),(2,.fn 78 []),(11,.sl 4 (a0.map z06)),(12,aI (((a0.map z06).length:Int))),(13,aI (v1_0))],[]⟩
theorem zsd {n a1 a0 k1_0_0}:z27 E0 39 (z74 n a1 a0 k1_0_0) (ztx a1 a0):=LoopA.oT fun _=>rfl
def zjl (r:Int):AV:=aI (r)
theorem zvk {n a0 a1 r}(hF:zaa n a0 a1=some r):Con E0 true 77 [.sl 4 (a0.map z06),.sl 4 (a1.map z06),.fn 78 []] (zjl r):=by
 unfold zaa at hF
 refine Con.walk _ Tryz.func77 rfl (z08 Tryz.func77 rfl rfl) rfl (Or.inr rfl) ?_
 repeat' first
  |refine AW.step ?_;conv=>whnf
  |refine z0v.o hF (fun hF=>?_) (fun hF=>?_)
  |refine IdxX.o z06 hF (fun x hF=>?_)
  |refine z0m.o hF zrl (fun a h=>y0n h) (fun a hF=>?_)
  |exact ⟨_,hF,LeX.a []⟩
  |refine zsd hF (LeX.a []) (fun m v hF=>?_);unfold z74 at hF
  |exact RetX.oA hF
def zld (r:Int):AV:=aI (r)
theorem zqd {n a0 a1 r}(hF:zd5 n a0 a1=some r):Con E0 true 43 [.agg [.sl 4 (a0.fBindings.map z06)],.agg [.sl 4 (a1.fBindings.map z06)]] (zld r):=by
 unfold zd5 at hF
 refine Con.walk _ Tryz.func43 rfl (z08 Tryz.func43 rfl rfl) rfl (Or.inr rfl) ?_
 repeat' first
  |refine AW.step ?_;conv=>whnf
  |refine z0m.o hF zjl (fun a h=>zvk h) (fun a hF=>?_)
  |exact RetX.oA hF
def zyc (r:Int):AV:=aI (r)
theorem con_run_compare_1 {n a0 a1 r}(hF:zey n a0 a1=some r):Con E0 true 90 [.agg [aI (a0.fScope),aI (a0.fTime)],.agg [aI (a1.fScope),aI (a1.fTime)]] (zyc r):=by
 unfold zey at hF
 refine Con.walk _ Tryz.func90 rfl (z08 Tryz.func90 rfl rfl) rfl (Or.inr rfl) ?_
 repeat' first
  |refine AW.step ?_;conv=>whnf
  |refine z0m.o hF zbw (fun a h=>zat h) (fun a hF=>?_)
  |refine z0m.o hF zu4 (fun a h=>zk5 h) (fun a hF=>?_)
  |refine And.intro ⟨by kernel_rfl,by kernel_rfl⟩ ?_
  |exact RetX.oA hF
def zl2 (a1:(List z0c))(a0:(List z0c))(v1_0:Int):AS:=⟨[(0,.sl 2 (a0.map z07)),(1,.sl 2 (a1.map z07)),(2,.fn 90 []),(11,.sl 2 (a0.map z07)),(12,aI (((a0.map z07).length:Int))),(13,aI (v1_0))],[]⟩
theorem zkb {n a1 a0 k1_0_0}:z27 E0 39 (z4a n a1 a0 k1_0_0) (zl2 a1 a0):=LoopA.oT fun _=>rfl
def zg7 (r:Int):AV:=aI (r)
theorem zme {n a0 a1 r}(hF:z8b n a0 a1=some r):Con E0 true 89 [.sl 2 (a0.map z07),.sl 2 (a1.map z07),.fn 90 []] (zg7 r):=by
 unfold z8b at hF
 refine Con.walk _ Tryz.func89 rfl (z08 Tryz.func89 rfl rfl) rfl (Or.inr rfl) ?_
 repeat' first
  |refine AW.step ?_;conv=>whnf
  |refine z0v.o hF (fun hF=>?_) (fun hF=>?_)
  |refine IdxX.o z07 hF (fun x hF=>?_)
  |refine z0m.o hF zyc (fun a h=>con_run_compare_1 h) (fun a hF=>?_)
  |exact ⟨_,hF,LeX.a []⟩
  |refine zkb hF (LeX.a []) (fun m v hF=>?_);unfold z4a at hF
  |exact RetX.oA hF
def y1w (r:Int):AV:=aI (r)
theorem con_run_compare {n a0 a1 r}(hF:zh1 n a0 a1=some r):Con E0 true 59 [.agg [aI (a0.fState),.sl 4 (a0.fBindings.map z06),.sl 2 (a0.fStarts.map z07)],.agg [aI (a1.fState),.sl 4 (a1.fBindings.map z06),.sl 2 (a1.fStarts.map z07)]] (y1w r):=by
 unfold zh1 at hF
 refine Con.walk _ Tryz.func59 rfl (z08 Tryz.func59 rfl rfl) rfl (Or.inr rfl) ?_
 repeat' first
  |refine AW.step ?_;conv=>whnf
  |refine z0m.o hF zbw (fun a h=>zat h) (fun a hF=>?_)
  |refine z0m.o hF zld (fun a h=>zqd h) (fun a hF=>?_)
  |refine z0m.o hF zg7 (fun a h=>zme h) (fun a hF=>?_)
  |refine z0m.o hF zu4 (fun a h=>zk5 h) (fun a hF=>?_)
  |refine And.intro ⟨by kernel_rfl,by kernel_rfl⟩ ?_
  |exact RetX.oA hF
def S_run_placed_j1 (w1_0:Bool):AS:=⟨[(2,.bool (w1_0))],[]⟩
theorem run_placed_j1_o {n}:z3v E0 31 (z6p n) S_run_placed_j1:=AW.jT
def R_run_placed (r:Bool):AV:=.bool (r)
theorem con_run_placed {n a0 r}(hF:ziz n a0=some r):Con E0 true 93 [.agg [aI (a0.fSource),aI (a0.fSeq),aI (a0.fType),aI (a0.fTime),.sl 3 (a0.fValues.map z0a)]] (R_run_placed r):=by
 unfold ziz at hF
 refine Con.walk _ Tryz.func93 rfl (z08 Tryz.func93 rfl rfl) rfl (Or.inr rfl) ?_
 repeat' first
  |refine run_placed_j1_o hF (fun hF=>?_) (fun v hF=>?_);rotate_left;unfold z6p at hF
  |refine AW.regO hF (fun hF=>?_)
  |refine AW.stepU [1] ?_;conv=>whnf
  |refine z0v.o hF (fun hF=>?_) (fun hF=>?_)
  |refine z0v.f ?_
  |exact ⟨_,hF,LeX.a []⟩
  |exact RetX.oA hF
def y1v (r:z13):AV:=.agg [aI (r.fTime),aI (r.fSource),aI (r.fSeq)]
theorem y0k {n a0 r}(hF:ziy n a0=some r):Con E0 true 72 [.agg [aI (a0.fSource),aI (a0.fSeq),aI (a0.fType),aI (a0.fTime),.sl 3 (a0.fValues.map z0a)]] (y1v r):=by
 unfold ziy at hF
 refine Con.walk _ Tryz.func72 rfl (z08 Tryz.func72 rfl rfl) rfl (Or.inr rfl) ?_
 repeat' first
  |refine AW.step ?_;conv=>whnf
  |exact RetX.oA hF
def R_run_refs (r:Int):AV:=aI (r)
theorem con_run_refs {n a0 a1 r}(hF:zi4 n a0 a1=some r):Con E0 true 92 [.agg [aI (a0.fTime),aI (a0.fSource),aI (a0.fSeq)],.agg [aI (a1.fTime),aI (a1.fSource),aI (a1.fSeq)]] (R_run_refs r):=by
 unfold zi4 at hF
 refine Con.walk _ Tryz.func92 rfl (z08 Tryz.func92 rfl rfl) rfl (Or.inr rfl) ?_
 repeat' first
  |refine AW.step ?_;conv=>whnf
  |refine z0m.o hF zbw (fun a h=>zat h) (fun a hF=>?_)
  |refine z0m.o hF zu4 (fun a h=>zk5 h) (fun a hF=>?_)
  |refine And.intro ⟨by kernel_rfl,by kernel_rfl⟩ ?_
  |exact RetX.oA hF
def R_run_late_1 (r:Bool):AV:=.bool (r)
theorem con_run_late_1 {n a0 a1 r}(hF:zew n a0 a1=some r):Con E0 true 119 [.agg [aI (a0.fVar),aI (a0.fRef.fTime),aI (a0.fRef.fSource),aI (a0.fRef.fSeq)],.ref [aI (a1.fSource),aI (a1.fSeq),aI (a1.fType),aI (a1.fTime),.sl 3 (a1.fValues.map z0a)]] (R_run_late_1 r):=by
 unfold zew at hF
 refine Con.walk _ Tryz.func119 rfl (z08 Tryz.func119 rfl rfl) rfl (Or.inr rfl) ?_
 repeat' first
  |refine AW.step ?_;conv=>whnf
  |refine z0m.o hF y1v (fun a h=>y0k h) (fun a hF=>?_)
  |refine z0m.o hF R_run_refs (fun a h=>con_run_refs h) (fun a hF=>?_)
  |refine And.intro ⟨by kernel_rfl,by kernel_rfl⟩ ?_
  |exact RetX.oA hF
def zor (a1c0:z01)(a0:(List z0p))(v1_0:Int):AS:=⟨[(0,.sl 4 (a0.map z06)),(1,.fn 119 [.ref [aI (a1c0.fSource),aI (a1c0.fSeq),aI (a1c0.fType),aI (a1c0.fTime),.sl 3 (a1c0.fValues.map z0a)]]),(7,aI (((a0.map z06).length:Int))),(8,aI (v1_0))],[]⟩
theorem znt {n a1c0 a0 k1_0_0}:z27 E0 19 (z5b n a1c0 a0 k1_0_0) (zor a1c0 a0):=LoopA.oT fun _=>rfl
def zhe (r:Int):AV:=aI (r)
theorem zq9 {n a0 a1c0 r}(hF:z96 n a0 a1c0=some r):Con E0 true 160 [.sl 4 (a0.map z06),.fn 119 [.ref [aI (a1c0.fSource),aI (a1c0.fSeq),aI (a1c0.fType),aI (a1c0.fTime),.sl 3 (a1c0.fValues.map z0a)]]] (zhe r):=by
 unfold z96 at hF
 refine Con.walk _ Tryz.func160 rfl (z08 Tryz.func160 rfl rfl) rfl (Or.inr rfl) ?_
 repeat' first
  |refine AW.step ?_;conv=>whnf
  |refine z0v.o hF (fun hF=>?_) (fun hF=>?_)
  |refine IdxX.o z06 hF (fun x hF=>?_)
  |refine z0m.o hF R_run_late_1 (fun a h=>con_run_late_1 h) (fun a hF=>?_)
  |exact ⟨_,hF,LeX.a []⟩
  |refine znt hF (LeX.a []) (fun m v hF=>?_);unfold z5b at hF
  |exact RetX.oA hF
def zfm (r:Bool):AV:=.bool (r)
theorem zkj {n a0 a1c0 r}(hF:z7s n a0 a1c0=some r):Con E0 true 118 [.sl 4 (a0.map z06),.fn 119 [.ref [aI (a1c0.fSource),aI (a1c0.fSeq),aI (a1c0.fType),aI (a1c0.fTime),.sl 3 (a1c0.fValues.map z0a)]]] (zfm r):=by
 unfold z7s at hF
 refine Con.walk _ Tryz.func118 rfl (z08 Tryz.func118 rfl rfl) rfl (Or.inr rfl) ?_
 repeat' first
  |refine AW.step ?_;conv=>whnf
  |refine z0m.o hF zhe (fun a h=>zq9 h) (fun a hF=>?_)
  |exact RetX.oA hF
def R_run_late (r:Bool):AV:=.bool (r)
theorem con_run_late {n a0 a1 r}(hF:zz1 n a0 a1=some r):Con E0 true 96 [.agg [aI (a0.fState),.sl 4 (a0.fBindings.map z06),.sl 2 (a0.fStarts.map z07)],.agg [aI (a1.fSource),aI (a1.fSeq),aI (a1.fType),aI (a1.fTime),.sl 3 (a1.fValues.map z0a)]] (R_run_late r):=by
 unfold zz1 at hF
 refine Con.walk _ Tryz.func96 rfl (z08 Tryz.func96 rfl rfl) rfl (Or.inr rfl) ?_
 repeat' first
  |refine AW.step ?_;conv=>whnf
  |refine zbm.o hF zfm (fun a h=>zkj h) (fun _=>Or.inr rfl) (fun a hF=>?_)
  |exact RetX.oA hF
def R_run_fits_1 (r:Bool):AV:=.bool (r)
theorem con_run_fits_1 {n a0 a1 r}(hF:zex n a0 a1=some r):Con E0 true 95 [.agg [aI (a0.fState),.sl 4 (a0.fBindings.map z06),.sl 2 (a0.fStarts.map z07)],.ref [aI (a1.fSource),aI (a1.fSeq),aI (a1.fType),aI (a1.fTime),.sl 3 (a1.fValues.map z0a)]] (R_run_fits_1 r):=by
 unfold zex at hF
 refine Con.walk _ Tryz.func95 rfl (z08 Tryz.func95 rfl rfl) rfl (Or.inr rfl) ?_
 repeat' first
  |refine AW.step ?_;conv=>whnf
  |refine z0m.o hF R_run_late (fun a h=>con_run_late h) (fun a hF=>?_)
  |exact RetX.oA hF
def zos (a1c0:z01)(a0:(List z00))(v1_0:Int):AS:=⟨[(0,.sl 3 (a0.map z0b)),(1,.fn 95 [.ref [aI (a1c0.fSource),aI (a1c0.fSeq),aI (a1c0.fType),aI (a1c0.fTime),.sl 3 (a1c0.fValues.map z0a)]]),(7,aI (((a0.map z0b).length:Int))),(8,aI (v1_0))],[]⟩
theorem znu {n a1c0 a0 k1_0_0}:z27 E0 19 (z5c n a1c0 a0 k1_0_0) (zos a1c0 a0):=LoopA.oT fun _=>rfl
def zhf (r:Int):AV:=aI (r)
theorem zqa {n a0 a1c0 r}(hF:z97 n a0 a1c0=some r):Con E0 true 117 [.sl 3 (a0.map z0b),.fn 95 [.ref [aI (a1c0.fSource),aI (a1c0.fSeq),aI (a1c0.fType),aI (a1c0.fTime),.sl 3 (a1c0.fValues.map z0a)]]] (zhf r):=by
 unfold z97 at hF
 refine Con.walk _ Tryz.func117 rfl (z08 Tryz.func117 rfl rfl) rfl (Or.inr rfl) ?_
 repeat' first
  |refine AW.step ?_;conv=>whnf
  |refine z0v.o hF (fun hF=>?_) (fun hF=>?_)
  |refine IdxX.o z0b hF (fun x hF=>?_)
  |refine z0m.o hF R_run_fits_1 (fun a h=>con_run_fits_1 h) (fun a hF=>?_)
  |exact ⟨_,hF,LeX.a []⟩
  |refine znu hF (LeX.a []) (fun m v hF=>?_);unfold z5c at hF
  |exact RetX.oA hF
def zfn (r:Bool):AV:=.bool (r)
theorem zkk {n a0 a1c0 r}(hF:z7t n a0 a1c0=some r):Con E0 true 94 [.sl 3 (a0.map z0b),.fn 95 [.ref [aI (a1c0.fSource),aI (a1c0.fSeq),aI (a1c0.fType),aI (a1c0.fTime),.sl 3 (a1c0.fValues.map z0a)]]] (zfn r):=by
 unfold z7t at hF
 refine Con.walk _ Tryz.func94 rfl (z08 Tryz.func94 rfl rfl) rfl (Or.inr rfl) ?_
 repeat' first
  |refine AW.step ?_;conv=>whnf
  |refine z0m.o hF zhf (fun a h=>zqa h) (fun a hF=>?_)
  |exact RetX.oA hF
def R_run_fits (r:Int):AV:=aI (r)
theorem con_run_fits {n a0 a1 r}(hF:zrq n a0 a1=some r):Con E0 true 62 [.sl 3 (a0.map z0b),.agg [aI (a1.fSource),aI (a1.fSeq),aI (a1.fType),aI (a1.fTime),.sl 3 (a1.fValues.map z0a)]] (R_run_fits r):=by
 unfold zrq at hF
 refine Con.walk _ Tryz.func62 rfl (z08 Tryz.func62 rfl rfl) rfl (Or.inr rfl) ?_
 repeat' first
  |refine AW.step ?_;conv=>whnf
  |refine z0v.o hF (fun hF=>?_) (fun hF=>?_)
  |refine z0m.o hF R_run_placed (fun a h=>con_run_placed h) (fun a hF=>?_)
  |refine zbm.o hF zfn (fun a h=>zkk h) (fun _=>Or.inr rfl) (fun a hF=>?_)
  |exact RetX.oA hF
end Go.Proofs.YtjpknpjjcddnnaaGreat
namespace Go.Proofs.YtjpknpjjcddnnaaGreat
open Go.RowKit
set_option maxHeartbeats 400000 in
theorem clone29_any (l:List (Cel 3))(S:Nat->Prop)(v:Value)(w:World)(h:Sl w S 3 encC v l)(hl:l.length<=1000000000) :
  Calls Tryz.prog 29 #[v] w (RetOwn 77 3 encC l w):=by
 have eok:EOk Tryz.prog 29 77 3 56 (encC (n:=3)):=eokC (sz:=3) tyOk29 rfl tyOk77 (by omega) rfl
 obtain ⟨A,c,rfl,hc,_⟩:=h.form
 have hq:=fun (W:World)=>Lib.run_eql_slice_nil W 29 77 A l.length c 0 0 Tryz.underlying29
 have H:=hide h
 cases A with
 |none =>
  have h0:l=[]:=h.none_nil
  subst h0
  clear h H hl hc
  simp only [List.length_nil,Option.isNone_none] at hq ⊢
  go_enter Tryz.func29,Tryz.ntmps29
  go_wp2
  go_ret
  exact ⟨none,0,rfl,Own.nil_,by go_grown⟩
 |some ad =>
  clear h
  go_enter Tryz.func29,Tryz.ntmps29
  go_wp2_with (at_builtin;refine z9y rfl _ _ rfl eok rfl Own.made_ rfl (H.out.alloc _) (by simp;omega) (by omega) (by simp) ?_;intro A' c' w1 ho hg _)
  go_ret
  exact ⟨A',c',rfl,ho,(Own.made_ (sz:=3) (enc:=encC (n:=3))).grown ((Below.refl _ _).alloc (Nat.le_refl _) _) (Nat.le_refl _) (by simp) hg⟩
theorem conT_clone29 {n a r}(hF:zd7 n a=some r):ConT E0 29 [.sl 3 (List.map z0b a)] 77 3 (List.map z0b r) (.row 0):=zqg rfl (z08 Tryz.func29 rfl rfl) clone29_any hF
def zrh (r:Bool):AV:=.bool (r)
theorem y0i {n a0 a1 r}(hF:zao n a0 a1=some r):Con E0 true 88 [.agg [aI (a0.fState),.sl 4 (a0.fBindings.map z06),.sl 2 (a0.fStarts.map z07)],.agg [aI (a1.fState),.sl 4 (a1.fBindings.map z06),.sl 2 (a1.fStarts.map z07)],.ref [.fn 59 []]] (zrh r):=by
 unfold zao at hF
 refine Con.walk _ Tryz.func88 rfl (z08 Tryz.func88 rfl rfl) rfl (Or.inr rfl) ?_
 repeat' first
  |refine AW.step ?_;conv=>whnf
  |refine z0m.o hF y1w (fun a h=>con_run_compare h) (fun a hF=>?_)
  |exact RetX.oA hF
def zty (x46:Nat)(v2_1:Int×Int×(List z00)):AS:=⟨[(0,.row 200000),(1,.fn 88 [.ref [.fn 59 []]]),(5,aI (v2_1.1)),(6,.der (.sub 3 (x46)) 200000),(7,aI (v2_1.2.1))],[(200000,.row 77 3 (v2_1.2.2.map z0b))]⟩
theorem zse {n x46 k2_1_0}:z27 (E0p 2) 66 (z4x n x46 k2_1_0) (zty x46):=LoopA.oT fun _=>rfl
def ztz (m0:(List z00))(v1_0:Int):AS:=⟨[(0,.row 200000),(1,.fn 88 [.ref [.fn 59 []]]),(5,aI (v1_0))],[(200000,.row 77 3 (m0.map z0b))]⟩
theorem zsf {n m0 k1_0_0}:z27 (E0p 2) 66 (z75 n m0 k1_0_0) (ztz m0):=LoopA.oT fun _=>rfl
def zzu (m0:(List z00)):List (Nat×Ent):=[(200000,.row 77 3 (m0.map z0b))]
def za3 (r:(List z00)):List (Nat×Ent):=[(260000,.row 77 3 (r.map z0b))]
def zcr (r:(List z00)):AV:=.row 260000
def zj8 (r:(List z00)):AS:=⟨[(4,.row 260000)],za3 r⟩
theorem zvl {n m0 r}(hF:zab n m0=some r):ConG E0.P none (CalF E0.P 87 0) [.row 200000,.fn 88 [.ref [.fn 59 []]]] [] (zzu m0) (zcr r) (za3 r):=by
 unfold zab at hF
 refine ConG.walk (E:=(E0p 2)) (caps:=[]) _ Tryz.func87 rfl rfl rfl rfl rfl ?_
 repeat' first
  |refine AW.step ?_;conv=>whnf
  |refine z0v.o hF (fun hF=>?_) (fun hF=>?_)
  |refine GX.o (res:=zcr) (meF:=za3) hF ?_;exact GX.mk (zj8 _) (LeX.a [(260000,200000)]) rfl _ rfl (by repeat' first|exact Sub.nil _|exact Sub.refl _|refine Sub.agg ?_|refine Sub.tup ?_|refine Sub.fn ?_|exact SubL.nil|refine SubL.cons ?_ ?_|refine Sub.sl _ ?_|exact SubE.nil|refine SubE.cons ?_ ?_) [] trivial rfl
  |refine NatX.o hF (fun m hF=>?_)
  |refine EltX.o z0b hF (fun x hF=>?_)
  |refine z0m.o hF zrh (fun a h=>Con.env rfl rfl (y0i h)) (fun a hF=>?_)
  |refine OpX.sub hF rfl rfl rfl rfl rfl rfl rfl rfl rfl rfl (fun m hF=>?_)
  |refine OpX.clr z0b hF rfl rfl rfl rfl rfl rfl rfl rfl rfl rfl rfl (by first|exact SubL.refl _|(repeat' first|exact SubL.nil|refine SubL.cons ?_ ?_|exact Sub.refl _|exact Sub.nil _|refine Sub.agg ?_)) (fun l hF=>?_)
  |refine SlsX.o z0b hF (fun l hF=>?_)
  |refine GX.o (res:=zcr) (meF:=za3) hF ?_;exact GX.mk (zj8 _) (LeX.a [(260000,64)]) rfl _ rfl (by repeat' first|exact Sub.nil _|exact Sub.refl _|refine Sub.agg ?_|refine Sub.tup ?_|refine Sub.fn ?_|exact SubL.nil|refine SubL.cons ?_ ?_|refine Sub.sl _ ?_|exact SubE.nil|refine SubE.cons ?_ ?_) [] trivial rfl
  |refine OpX.lns hF rfl rfl rfl rfl rfl rfl rfl (fun hF=>?_)
  |refine OpX.ixs hF rfl rfl rfl rfl rfl rfl rfl rfl rfl rfl (fun m hF=>?_)
  |refine SetX.o z0b hF (fun x=>rfl) (fun x=>(by first|exact SubL.refl _|(repeat' first|exact SubL.nil|refine SubL.cons ?_ ?_|exact Sub.refl _|exact Sub.nil _|refine Sub.agg ?_))) (fun l hF=>?_)
  |exact ⟨_,hF,LeX.a []⟩
  |refine zse hF (LeX.a []) (fun m v hF=>?_);unfold z4x at hF
  |exact ⟨_,hF,LeX.a []⟩
  |refine zsf hF (LeX.a []) (fun m v hF=>?_);unfold z75 at hF
  |refine And.intro ⟨by kernel_rfl,by kernel_rfl⟩ ?_
  |refine EqX.mk (by first|rfl|kernel_rfl) ?_
def M_run_unique (m0:(List z00)):List (Nat×Ent):=[(200000,.row 77 3 (m0.map z0b))]
def zix (r:(List z00)):List (Nat×Ent):=[(260000,.row 77 3 (r.map z0b))]
def zn4 (r:(List z00)):AV:=.row 260000
def Z_run_unique (r:(List z00)):AS:=⟨[(4,.row 260000)],zix r⟩
theorem y00 {n m0 r}(hF:zg8 n m0=some r):ConG E0.P none (CalF E0.P 58 0) [.row 200000,.fn 59 []] [] (M_run_unique m0) (zn4 r) (zix r):=by
 unfold zg8 at hF
 refine ConG.walk (E:=(E0p 2)) (caps:=[]) _ Tryz.func58 rfl rfl rfl rfl rfl ?_
 repeat' first
  |refine AW.frbO hF 3 rfl rfl (fun hF=>?_)
  |refine AW.regO hF (fun hF=>?_)
  |refine AW.stepU [2] ?_;conv=>whnf
  |refine zbm.oI hF 200000 (fun r=>r) z0b (fun _=>AV.tup []) rfl (fun a h=>(ConC.env rfl (sortCf_con h))) rfl rfl rfl (fun a hF=>?_)
  |refine zbm.oM (zcu 10 hF) [(200000,200000)] [(260000,11000000)] _ _ za3 zcr [200000] (fun a h=>ConG.up (zvl h)) (z08 Tryz.func87 rfl rfl) rfl rfl rfl ⟨⟨rfl,rfl⟩,trivial⟩ (fun a=>⟨rfl,rfl,rfl,rfl,rfl,rfl,rfl,rfl⟩) (fun a hF=>?_)
  |refine GX.o (res:=zn4) (meF:=zix) hF ?_;exact GX.mk (Z_run_unique _) (LeX.a [(260000,11000000)]) rfl _ rfl (by repeat' first|exact Sub.nil _|exact Sub.refl _|refine Sub.agg ?_|refine Sub.tup ?_|refine Sub.fn ?_|exact SubL.nil|refine SubL.cons ?_ ?_|refine Sub.sl _ ?_|exact SubE.nil|refine SubE.cons ?_ ?_) [] trivial rfl
def R_run_Sort (r:(List z00)×Int):AV:=.tup [.sl 3 (r.1.map z0b),aI (r.2)]
theorem con_run_Sort {n a0 r}(hF:zrr n a0=some r):Con E0 false 24 [.sl 3 (a0.map z0b)] (R_run_Sort r):=by
 unfold zrr at hF
 refine Con.walk _ Tryz.func24 rfl (z08 Tryz.func24 rfl rfl) rfl (Or.inl rfl) ?_
 repeat' first
  |refine AW.step ?_;conv=>whnf
  |refine z0v.o hF (fun hF=>?_) (fun hF=>?_)
  |refine z0m.oR hF (fun r=>r) z0b (fun _=>AV.row 0) rfl (fun a h=>conT_clone29 h) (fun a hF=>?_)
  |refine zbm.oM (zcu 7 hF) [(200000,6)] [(260000,8000000)] _ _ zix zn4 [6] (fun a h=>ConG.up (y00 h)) (z08 Tryz.func58 rfl rfl) rfl rfl rfl ⟨⟨rfl,rfl⟩,trivial⟩ (fun a=>⟨rfl,rfl,rfl,rfl,rfl,rfl,rfl,rfl⟩) (fun a hF=>?_)
  |exact RetX.oA hF
def zek (r:z01):AV:=.agg [aI (r.fSource),aI (r.fSeq),aI (r.fType),aI (r.fTime),.sl 3 (r.fValues.map z0a)]
theorem zgl {n a0 a1 r}(hF:z2j n a0 a1=some r):Con E0 false 36 [aI (a0),aI (a1)] (zek r):=by
 unfold z2j at hF
 refine Con.walk _ Tryz.func36 rfl (z08 Tryz.func36 rfl rfl) rfl (Or.inl rfl) ?_
 repeat' first
  |refine AW.step ?_;conv=>whnf
  |exact RetX.oA hF
def zgs (r:z05):AV:=.agg [aI (r.fVars),aI (r.fScopes),.sl 1 (r.fStates.map z0d),.sl 17 (r.fEdges.map z0e)]
theorem zo3 {n r}(hF:zds n=some r):Con E0 false 37 [] (zgs r):=by
 unfold zds at hF
 refine Con.walk _ Tryz.func37 rfl (z08 Tryz.func37 rfl rfl) rfl (Or.inl rfl) ?_
 repeat' first
  |refine AW.step ?_;conv=>whnf
  |refine z0m.o hF za2 (fun a h=>zbl h) (fun a hF=>?_)
  |refine MakX.o z0d hF (by first|exact SubL.refl _|(repeat' first|exact SubL.nil|refine SubL.cons ?_ ?_|exact Sub.refl _|exact Sub.nil _|refine Sub.agg ?_)) (fun l hF=>?_)
  |refine And.intro ⟨by kernel_rfl,by kernel_rfl⟩ ?_
  |refine EqX.mk (by first|rfl|kernel_rfl) ?_
  |exact RetX.oA hF
def zyb (r:Bool):AV:=.bool (r)
theorem con_stream_placed {n a0 r}(hF:zev n a0=some r):Con E0 true 102 [.agg [aI (a0.fSource),aI (a0.fSeq),aI (a0.fType),aI (a0.fTime),.sl 3 (a0.fValues.map z0a)]] (zyb r):=by
 unfold zev at hF
 refine Con.walk _ Tryz.func102 rfl (z08 Tryz.func102 rfl rfl) rfl (Or.inr rfl) ?_
 repeat' first
  |refine AW.step ?_;conv=>whnf
  |refine z0v.o hF (fun hF=>?_) (fun hF=>?_)
  |refine z0v.f ?_
  |exact RetX.oA hF
def R_event_Ref (r:z13):AV:=.agg [aI (r.fTime),aI (r.fSource),aI (r.fSeq)]
theorem con_event_Ref {n a0 r}(hF:zls n a0=some r):Con E0 true 130 [.agg [aI (a0.fSource),aI (a0.fSeq),aI (a0.fType),aI (a0.fTime),.sl 3 (a0.fValues.map z0a)]] (R_event_Ref r):=by
 unfold zls at hF
 refine Con.walk _ Tryz.func130 rfl (z08 Tryz.func130 rfl rfl) rfl (Or.inr rfl) ?_
 repeat' first
  |refine AW.step ?_;conv=>whnf
  |exact RetX.oA hF
def zyg (r:Int):AV:=aI (r)
theorem con_event_Compare {n a0 a1 r}(hF:zf1 n a0 a1=some r):Con E0 true 103 [.agg [aI (a0.fSource),aI (a0.fSeq),aI (a0.fType),aI (a0.fTime),.sl 3 (a0.fValues.map z0a)],.agg [aI (a1.fSource),aI (a1.fSeq),aI (a1.fType),aI (a1.fTime),.sl 3 (a1.fValues.map z0a)]] (zyg r):=by
 unfold zf1 at hF
 refine Con.walk _ Tryz.func103 rfl (z08 Tryz.func103 rfl rfl) rfl (Or.inr rfl) ?_
 repeat' first
  |refine AW.step ?_;conv=>whnf
  |refine z0v.o hF (fun hF=>?_) (fun hF=>?_)
  |refine z0m.o hF R_event_Ref (fun a h=>con_event_Ref h) (fun a hF=>?_)
  |refine z0m.o hF zbw (fun a h=>zat h) (fun a hF=>?_)
  |refine z0m.o hF zu4 (fun a h=>zk5 h) (fun a hF=>?_)
  |refine And.intro ⟨by kernel_rfl,by kernel_rfl⟩ ?_
  |refine EqX.mk (by first|rfl|kernel_rfl) ?_
  |exact RetX.oA hF
def R_stream_of (r:z56):AV:=.agg [aI (r.fsource),aI (r.fseq)]
theorem con_stream_of {n a0 r}(hF:zg1 n a0=some r):Con E0 true 104 [.agg [aI (a0.fSource),aI (a0.fSeq),aI (a0.fType),aI (a0.fTime),.sl 3 (a0.fValues.map z0a)]] (R_stream_of r):=by
 unfold zg1 at hF
 refine Con.walk _ Tryz.func104 rfl (z08 Tryz.func104 rfl rfl) rfl (Or.inr rfl) ?_
 repeat' first
  |refine AW.step ?_;conv=>whnf
  |exact RetX.oA hF
theorem eqK_163 (a b:z56):eqK (zal a) (zal b)=some (decide (a=b)):=by cases a;cases b;simp [zal,eqK,eqL,eq1,aI,zqh]
def S_stream_Check_l1 (a0:(List z01))(v1_0:Int×(List (z56×Bool))):AS:=⟨[(0,.sl 5 (a0.map z04)),(3,.row 9),(10,.sl 5 (a0.map z04)),(11,aI (((a0.map z04).length:Int))),(12,aI (v1_0.1))],[(9,.mp (List.map (encM zal AV.bool) (v1_0.2)))]⟩
theorem stream_Check_l1_o {n a0 k1_0_0}:z27 E0 43 (z9d n a0 k1_0_0) (S_stream_Check_l1 a0):=LoopA.oT fun _=>rfl
def y02 (r:Int):AV:=aI (r)
theorem con_stream_Check {n a0 r}(hF:zfs n a0=some r):Con E0 true 71 [.sl 5 (a0.map z04)] (y02 r):=by
 unfold zfs at hF
 refine Con.walk _ Tryz.func71 rfl (z08 Tryz.func71 rfl rfl) rfl (Or.inr rfl) ?_
 repeat' first
  |refine AW.step ?_;conv=>whnf
  |refine z0v.o hF (fun hF=>?_) (fun hF=>?_)
  |refine z0v.f ?_
  |refine IdxX.o z04 hF (fun x hF=>?_)
  |refine z0m.o hF zyb (fun a h=>con_stream_placed h) (fun a hF=>?_)
  |refine z0m.o hF zyg (fun a h=>con_event_Compare h) (fun a hF=>?_)
  |refine z0m.o hF R_stream_of (fun a h=>con_stream_of h) (fun a hF=>?_)
  |refine LkX.o zal AV.bool hF (by first|rfl|kernel_rfl) eqK_163 (by repeat' first|exact Sub.nil _|exact Sub.refl _|refine Sub.agg ?_|refine Sub.tup ?_|refine Sub.fn ?_|exact SubL.nil|refine SubL.cons ?_ ?_|refine Sub.sl _ ?_|exact SubE.nil|refine SubE.cons ?_ ?_) (fun v b hF=>?_)
  |refine UpX.o zal AV.bool hF (by first|rfl|kernel_rfl) eqK_163 (by repeat' first|exact Sub.nil _|exact Sub.refl _|refine Sub.agg ?_|refine Sub.tup ?_|refine Sub.fn ?_|exact SubL.nil|refine SubL.cons ?_ ?_|refine Sub.sl _ ?_|exact SubE.nil|refine SubE.cons ?_ ?_) (fun l hF=>?_)
  |exact ⟨_,hF,LeX.a []⟩
  |refine stream_Check_l1_o hF (LeX.a []) (fun m v hF=>?_);unfold z9d at hF
  |refine And.intro ⟨by kernel_rfl,by kernel_rfl⟩ ?_
  |exact RetX.oA hF
theorem eqK_108 (a b:z13):eqK (z28 a) (z28 b)=some (decide (a=b)):=by cases a;cases b;simp [z28,eqK,eqL,eq1,aI,zqh]
def zdh:Option z0i->AV
 |none=>.nilp
 |some x=>.ref [aI (x.fa.fVars),aI (x.fa.fScopes),.sl 1 (x.fa.fStates.map z0d),.sl 17 (x.fa.fEdges.map z0e),.mapv (List.map (encM z28 z04) (x.fheld))]
def S_run_begin_l1 (a1:(List z01))(a0:z05)(v1_0:Int×(List (z13×z01))):AS:=⟨[(8,.ptr 24 0),(25,.sl 5 (a1.map z04)),(26,aI (((a1.map z04).length:Int))),(27,aI (v1_0.1))],[(24,.box 133 [aI (a0.fVars),aI (a0.fScopes),.sl 1 (a0.fStates.map z0d),.sl 17 (a0.fEdges.map z0e),.row 22]),(22,.mp (List.map (encM z28 z04) (v1_0.2)))]⟩
theorem run_begin_l1_o {n a1 a0 k1_0_0}:z27 E0 40 (zdx n a1 a0 k1_0_0) (S_run_begin_l1 a1 a0):=LoopA.oT fun _=>rfl
def zck (r:(Option z0i)×Int):AV:=.tup [zdh (r.1),aI (r.2)]
theorem zt3 {n a0 a1 r}(hF:zb9 n a0 a1=some r):Con E0 false 39 [.agg [aI (a0.fVars),aI (a0.fScopes),.sl 1 (a0.fStates.map z0d),.sl 17 (a0.fEdges.map z0e)],.sl 5 (a1.map z04)] (zck r):=by
 unfold zb9 at hF
 refine Con.walk _ Tryz.func39 rfl (z08 Tryz.func39 rfl rfl) rfl (Or.inl rfl) ?_
 repeat' first
  |refine AW.step ?_;conv=>whnf
  |refine z0v.o hF (fun hF=>?_) (fun hF=>?_)
  |refine z0m.o hF zrn (fun a h=>y0p h) (fun a hF=>?_)
  |refine z0m.o hF y02 (fun a h=>con_stream_Check h) (fun a hF=>?_)
  |refine IdxX.o z04 hF (fun x hF=>?_)
  |refine OpX.nckP rfl rfl rfl rfl rfl ?_
  |refine z0m.o hF y1v (fun a h=>y0k h) (fun a hF=>?_)
  |refine UpX.o z28 z04 hF (by first|rfl|kernel_rfl) eqK_108 (by repeat' first|exact Sub.nil _|exact Sub.refl _|refine Sub.agg ?_|refine Sub.tup ?_|refine Sub.fn ?_|exact SubL.nil|refine SubL.cons ?_ ?_|refine Sub.sl _ ?_|exact SubE.nil|refine SubE.cons ?_ ?_) (fun l hF=>?_)
  |exact ⟨_,hF,LeX.a []⟩
  |refine run_begin_l1_o hF (LeX.a []) (fun m v hF=>?_);unfold zdx at hF
  |refine And.intro ⟨by kernel_rfl,by kernel_rfl⟩ ?_
  |exact RetX.oA hF
def R_run_Begin (r:z00):AV:=.agg [aI (r.fState),.sl 4 (r.fBindings.map z06),.sl 2 (r.fStarts.map z07)]
theorem con_run_Begin {n r}(hF:zlp n=some r):Con E0 false 40 [] (R_run_Begin r):=by
 unfold zlp at hF
 refine Con.walk _ Tryz.func40 rfl (z08 Tryz.func40 rfl rfl) rfl (Or.inl rfl) ?_
 repeat' first
  |refine AW.step ?_;conv=>whnf
  |exact RetX.oA hF
def zyi (a0:z0i)(a1:z00)(a2:z01):List (Nat×Ent):=[]
def zbx (r:z0i×z00×z01):List (Nat×Ent):=[(3,.box 94 [.ref [aI (r.1.fa.fVars),aI (r.1.fa.fScopes),.sl 1 (r.1.fa.fStates.map z0d),.sl 17 (r.1.fa.fEdges.map z0e),.mapv (List.map (encM z28 z04) (r.1.fheld))]]),(4,.box 77 [aI (r.2.1.fState),.sl 4 (r.2.1.fBindings.map z06),.sl 2 (r.2.1.fStarts.map z07)]),(5,.box 66 [aI (r.2.2.fSource),aI (r.2.2.fSeq),aI (r.2.2.fType),aI (r.2.2.fTime),.sl 3 (r.2.2.fValues.map z0a)])]
def zel (r:z0i×z00×z01):AV:=.fn 105 [.ptr 3 0,.ptr 4 0,.ptr 5 0]
def zxt (r:z0i×z00×z01):AS:=⟨[(6,.fn 105 [.ptr 3 0,.ptr 4 0,.ptr 5 0])],zbx r⟩
theorem zt2 {n a0 a1 a2 r}(hF:zc6 n a0 a1 a2=some r):ConG E0.P none (CalF E0.P 73 0) [.ref [aI (a0.fa.fVars),aI (a0.fa.fScopes),.sl 1 (a0.fa.fStates.map z0d),.sl 17 (a0.fa.fEdges.map z0e),.mapv (List.map (encM z28 z04) (a0.fheld))],.agg [aI (a1.fState),.sl 4 (a1.fBindings.map z06),.sl 2 (a1.fStarts.map z07)],.agg [aI (a2.fSource),aI (a2.fSeq),aI (a2.fType),aI (a2.fTime),.sl 3 (a2.fValues.map z0a)]] [] (zyi a0 a1 a2) (zel r) (zbx r):=by
 unfold zc6 at hF
 refine ConG.walk (E:=(E0p 3)) (caps:=[]) _ Tryz.func73 rfl rfl rfl rfl rfl ?_
 repeat' first
  |refine AW.step ?_;conv=>whnf
  |refine GX.o (res:=zel) (meF:=zbx) hF ?_;exact GX.mk (zxt _) (LeX.a []) rfl _ rfl (by repeat' first|exact Sub.nil _|exact Sub.refl _|refine Sub.agg ?_|refine Sub.tup ?_|refine Sub.fn ?_|exact SubL.nil|refine SubL.cons ?_ ?_|refine Sub.sl _ ?_|exact SubE.nil|refine SubE.cons ?_ ?_) [] trivial rfl
def zrp (m0:(List z00))(m1:(List z02)):List (Nat×Ent):=[(100000,.box 29 [.row 200000]),(200000,.row 77 3 (m0.map z0b)),(100001,.box 30 [.row 200001]),(200001,.row 83 1 (m1.map z0f))]
def z3y (r:(List z00)×(List z02)):List (Nat×Ent):=[(100000,.box 29 [.row 250000]),(250000,.row 77 3 (r.1.map z0b)),(100001,.box 30 [.row 250001]),(250001,.row 83 1 (r.2.map z0f))]
def zg4 (r:(List z00)×(List z02)):AS:=⟨[(8,.ptr 100000 0),(9,.ptr 100001 0)],z3y r⟩
def zzm (a1:(List z0p))(a0:z0i)(x1:Nat)(v1_0:Int×(List (List z01))):AS:=⟨[(0,.ref [aI (a0.fa.fVars),aI (a0.fa.fScopes),.sl 1 (a0.fa.fStates.map z0d),.sl 17 (a0.fa.fEdges.map z0e),.mapv (List.map (encM z28 z04) (a0.fheld))]),(4,.ptr 4 0),(5,.ptr 5 0),(15,.sl 4 (a1.map z06)),(16,aI (((a1.map z06).length:Int))),(17,aI (v1_0.1))],[(4,.box 167 [.nils]),(5,.box 167 [.cont (x1) 13]),(13,.nest 26 (List.map (enR z04 66 5) (v1_0.2)))]⟩
theorem zz3 {n a1 a0 x1 k1_0_0}:z27 E0 43 (z8v n a1 a0 x1 k1_0_0) (zzm a1 a0 x1):=LoopA.oT fun _=>rfl
def zri (r:z0h):AV:=.agg [.sl 1 (List.map (fun q=>AV.sl 5 (List.map z04 q)) (r.fVars))]
theorem y0j {n a0 a1 r}(hF:zd1 n a0 a1=some r):Con E0 false 106 [.ref [aI (a0.fa.fVars),aI (a0.fa.fScopes),.sl 1 (a0.fa.fStates.map z0d),.sl 17 (a0.fa.fEdges.map z0e),.mapv (List.map (encM z28 z04) (a0.fheld))],.sl 4 (a1.map z06)] (zri r):=by
 unfold zd1 at hF
 refine Con.walk _ Tryz.func106 rfl (z08 Tryz.func106 rfl rfl) rfl (Or.inl rfl) ?_
 repeat' first
  |refine AW.nstO (er:=z04) 66 5 hF 13 rfl (fun hF=>?_)
  |refine AW.frrO (ety:=66) (sz:=5) z04 hF 13 rfl (fun hF=>?_)
  |refine AW.regO hF (fun hF=>?_)
  |refine AW.stepU [7,2] ?_;conv=>whnf
  |refine z0v.o hF (fun hF=>?_) (fun hF=>?_)
  |refine OpX.nckR rfl rfl rfl rfl ?_
  |refine MakX.on hF (fun m hF=>?_)
  |refine IdxX.o z06 hF (fun x hF=>?_)
  |refine OpX.ixc hF rfl rfl rfl rfl rfl rfl rfl rfl (fun hF=>?_)
  |refine OpX.ntk z04 hF rfl rfl rfl rfl rfl rfl rfl rfl rfl rfl (fun q hF=>?_)
  |refine OpX.lkv z28 z04 hF eqK_108 rfl rfl rfl rfl rfl rfl rfl rfl rfl rfl (by first|rfl|kernel_rfl) (by repeat' first|exact Sub.nil _|exact Sub.refl _|refine Sub.agg ?_|refine Sub.tup ?_|refine Sub.fn ?_|exact SubL.nil|refine SubL.cons ?_ ?_|refine Sub.sl _ ?_|exact SubE.nil|refine SubE.cons ?_ ?_) (fun v b hF=>?_)
  |refine AppX.o z04 hF (by first|exact SubR.refl _|(repeat' first|exact SubR.nil|refine SubR.cons ?_ ?_|exact SubL.nil|refine SubL.cons ?_ ?_|exact Sub.refl _|exact Sub.nil _)) (fun l hF=>?_)
  |refine OpX.npt z04 hF rfl rfl rfl rfl rfl rfl rfl rfl rfl rfl rfl (fun l hF=>?_)
  |exact ⟨_,hF,LeX.a []⟩
  |refine zz3 hF (LeX.a []) (fun m v hF=>?_);unfold z8v at hF
  |refine And.intro ⟨by kernel_rfl,by kernel_rfl⟩ ?_
  |refine EqX.mk (by first|rfl|kernel_rfl) ?_
  |exact RetX.oA hF
end Go.Proofs.YtjpknpjjcddnnaaGreat
