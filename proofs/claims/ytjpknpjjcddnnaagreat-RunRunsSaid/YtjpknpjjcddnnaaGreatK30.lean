/- What some functions compute, over plain values. Printed by a program of mine (gen_fun.lean). -/
import Derived.Test.YtjpknpjjcddnnaaGreatK21
import Derived.Test.YtjpknpjjcddnnaaGreatK29
set_option linter.unusedVariables false
set_option linter.unusedSimpArgs false
set_option maxRecDepth 100000
set_option maxHeartbeats 8000000
namespace Go.Proofs.YtjpknpjjcddnnaaGreat
open Go.RowKit
def zpm (r:Bool):AV:=.bool (r)
theorem zyc {n a0 a1 r}(hF:z9x n a0 a1=some r):Con E0 true 88 [.agg [aI (a0.fState),.sl 4 (a0.fBindings.map z0a),.sl 2 (a0.fStarts.map z08)],.agg [aI (a1.fState),.sl 4 (a1.fBindings.map z0a),.sl 2 (a1.fStarts.map z08)],.ref [.fn 59 []]] (zpm r):=by
 unfold z9x at hF
 refine Con.walk _ Tryz.func88 rfl (z06 Tryz.func88 rfl rfl) rfl (Or.inr rfl) ?_
 repeat' first
  |refine AW.step ?_;conv=>whnf
  |refine z0m.o hF zzq (fun a h=>con_run_compare h) (fun a hF=>?_)
  |exact RetX.oA hF
def zs0 (x46:Nat)(v2_1:Int×Int×(List z00)):AS:=⟨[(0,.row 200000),(1,.fn 88 [.ref [.fn 59 []]]),(5,aI (v2_1.1)),(6,.der (.sub 3 (x46)) 200000),(7,aI (v2_1.2.1))],[(200000,.row 77 3 (v2_1.2.2.map z0e))]⟩
theorem zqi {n x46 k2_1_0}:z2d (E0p 2) 66 (z4m n x46 k2_1_0) (zs0 x46):=LoopA.oT fun _=>rfl
def zs1 (m0:(List z00))(v1_0:Int):AS:=⟨[(0,.row 200000),(1,.fn 88 [.ref [.fn 59 []]]),(5,aI (v1_0))],[(200000,.row 77 3 (m0.map z0e))]⟩
theorem zqj {n m0 k1_0_0}:z2d (E0p 2) 66 (z6m n m0 k1_0_0) (zs1 m0):=LoopA.oT fun _=>rfl
def zxq (m0:(List z00)):List (Nat×Ent):=[(200000,.row 77 3 (m0.map z0e))]
def z9b (r:(List z00)):List (Nat×Ent):=[(260000,.row 77 3 (r.map z0e))]
def zbs (r:(List z00)):AV:=.row 260000
def zhr (r:(List z00)):AS:=⟨[(4,.row 260000)],z9b r⟩
theorem zti {n m0 r}(hF:z9k n m0=some r):ConG E0.P none (CalF E0.P 87 0) [.row 200000,.fn 88 [.ref [.fn 59 []]]] [] (zxq m0) (zbs r) (z9b r):=by
 unfold z9k at hF
 refine ConG.walk (E:=(E0p 2)) (caps:=[]) _ Tryz.func87 rfl rfl rfl rfl rfl ?_
 repeat' first
  |refine AW.step ?_;conv=>whnf
  |refine z0v.o hF (fun hF=>?_) (fun hF=>?_)
  |refine GX.o (res:=zbs) (meF:=z9b) hF ?_;exact GX.mk (zhr _) (LeX.a [(260000,200000)]) rfl _ rfl (by repeat' first|exact Sub.nil _|exact Sub.refl _|refine Sub.agg ?_|refine Sub.tup ?_|refine Sub.fn ?_|exact SubL.nil|refine SubL.cons ?_ ?_|refine Sub.sl _ ?_|exact SubE.nil|refine SubE.cons ?_ ?_) [] trivial rfl
  |refine NatX.o hF (fun m hF=>?_)
  |refine EltX.o z0e hF (fun x hF=>?_)
  |refine z0m.o hF zpm (fun a h=>Con.env rfl rfl (zyc h)) (fun a hF=>?_)
  |refine OpX.sub hF rfl rfl rfl rfl rfl rfl rfl rfl rfl rfl (fun m hF=>?_)
  |refine OpX.clr z0e hF rfl rfl rfl rfl rfl rfl rfl rfl rfl rfl rfl (by first|exact SubL.refl _|(repeat' first|exact SubL.nil|refine SubL.cons ?_ ?_|exact Sub.refl _|exact Sub.nil _|refine Sub.agg ?_)) (fun l hF=>?_)
  |refine SlsX.o z0e hF (fun l hF=>?_)
  |refine GX.o (res:=zbs) (meF:=z9b) hF ?_;exact GX.mk (zhr _) (LeX.a [(260000,64)]) rfl _ rfl (by repeat' first|exact Sub.nil _|exact Sub.refl _|refine Sub.agg ?_|refine Sub.tup ?_|refine Sub.fn ?_|exact SubL.nil|refine SubL.cons ?_ ?_|refine Sub.sl _ ?_|exact SubE.nil|refine SubE.cons ?_ ?_) [] trivial rfl
  |refine OpX.lns hF rfl rfl rfl rfl rfl rfl rfl (fun hF=>?_)
  |refine OpX.ixs hF rfl rfl rfl rfl rfl rfl rfl rfl rfl rfl (fun m hF=>?_)
  |refine SetX.o z0e hF (fun x=>rfl) (fun x=>(by first|exact SubL.refl _|(repeat' first|exact SubL.nil|refine SubL.cons ?_ ?_|exact Sub.refl _|exact Sub.nil _|refine Sub.agg ?_))) (fun l hF=>?_)
  |exact ⟨_,hF,LeX.a []⟩
  |refine zqi hF (LeX.a []) (fun m v hF=>?_);unfold z4m at hF
  |exact ⟨_,hF,LeX.a []⟩
  |refine zqj hF (LeX.a []) (fun m v hF=>?_);unfold z6m at hF
  |refine And.intro ⟨by kernel_rfl,by kernel_rfl⟩ ?_
  |refine EqX.mk (by first|rfl|kernel_rfl) ?_
def M_run_unique (m0:(List z00)):List (Nat×Ent):=[(200000,.row 77 3 (m0.map z0e))]
def zlr (r:(List z00)):List (Nat×Ent):=[(260000,.row 77 3 (r.map z0e))]
def zw7 (r:(List z00)):AV:=.row 260000
def Z_run_unique (r:(List z00)):AS:=⟨[(4,.row 260000)],zlr r⟩
theorem con_run_unique {n m0 r}(hF:zhi n m0=some r):ConG E0.P none (CalF E0.P 58 0) [.row 200000,.fn 59 []] [] (M_run_unique m0) (zw7 r) (zlr r):=by
 unfold zhi at hF
 refine ConG.walk (E:=(E0p 2)) (caps:=[]) _ Tryz.func58 rfl rfl rfl rfl rfl ?_
 repeat' first
  |refine AW.frbO hF 3 rfl rfl (fun hF=>?_)
  |refine AW.regO hF (fun hF=>?_)
  |refine AW.stepU [2] ?_;conv=>whnf
  |refine zcc.oI hF 200000 (fun r=>r) z0e (fun _=>AV.tup []) rfl (fun a h=>(ConC.env rfl (sortCf_con h))) rfl rfl rfl (fun a hF=>?_)
  |refine zcc.oM (zcq 10 hF) [(200000,200000)] [(260000,11000000)] _ _ z9b zbs [200000] (fun a h=>ConG.up (zti h)) (z06 Tryz.func87 rfl rfl) rfl rfl rfl ⟨⟨rfl,rfl⟩,trivial⟩ (fun a=>⟨rfl,rfl,rfl,rfl,rfl,rfl,rfl,rfl⟩) (fun a hF=>?_)
  |refine GX.o (res:=zw7) (meF:=zlr) hF ?_;exact GX.mk (Z_run_unique _) (LeX.a [(260000,11000000)]) rfl _ rfl (by repeat' first|exact Sub.nil _|exact Sub.refl _|refine Sub.agg ?_|refine Sub.tup ?_|refine Sub.fn ?_|exact SubL.nil|refine SubL.cons ?_ ?_|refine Sub.sl _ ?_|exact SubE.nil|refine SubE.cons ?_ ?_) [] trivial rfl
def zdq (r:z01):AV:=.agg [aI (r.fSource),aI (r.fSeq),aI (r.fType),aI (r.fTime),.sl 3 (r.fValues.map z07)]
theorem zfh {n a0 a1 r}(hF:z2b n a0 a1=some r):Con E0 false 36 [aI (a0),aI (a1)] (zdq r):=by
 unfold z2b at hF
 refine Con.walk _ Tryz.func36 rfl (z06 Tryz.func36 rfl rfl) rfl (Or.inl rfl) ?_
 repeat' first
  |refine AW.step ?_;conv=>whnf
  |exact RetX.oA hF
def zfo (r:z05):AV:=.agg [aI (r.fVars),aI (r.fScopes),.sl 1 (r.fStates.map z0c),.sl 17 (r.fEdges.map z0d)]
theorem zme {n r}(hF:zcx n=some r):Con E0 false 37 [] (zfo r):=by
 unfold zcx at hF
 refine Con.walk _ Tryz.func37 rfl (z06 Tryz.func37 rfl rfl) rfl (Or.inl rfl) ?_
 repeat' first
  |refine AW.step ?_;conv=>whnf
  |refine z0m.o hF z9a (fun a h=>zar h) (fun a hF=>?_)
  |refine MakX.o z0c hF (by first|exact SubL.refl _|(repeat' first|exact SubL.nil|refine SubL.cons ?_ ?_|exact Sub.refl _|exact Sub.nil _|refine Sub.agg ?_)) (fun l hF=>?_)
  |refine And.intro ⟨by kernel_rfl,by kernel_rfl⟩ ?_
  |refine EqX.mk (by first|rfl|kernel_rfl) ?_
  |exact RetX.oA hF
def zw6 (r:Bool):AV:=.bool (r)
theorem con_stream_placed {n a0 r}(hF:ze0 n a0=some r):Con E0 true 102 [.agg [aI (a0.fSource),aI (a0.fSeq),aI (a0.fType),aI (a0.fTime),.sl 3 (a0.fValues.map z07)]] (zw6 r):=by
 unfold ze0 at hF
 refine Con.walk _ Tryz.func102 rfl (z06 Tryz.func102 rfl rfl) rfl (Or.inr rfl) ?_
 repeat' first
  |refine AW.step ?_;conv=>whnf
  |refine z0v.o hF (fun hF=>?_) (fun hF=>?_)
  |refine z0v.f ?_
  |exact RetX.oA hF
def R_event_Ref (r:z1h):AV:=.agg [aI (r.fTime),aI (r.fSource),aI (r.fSeq)]
theorem con_event_Ref {n a0 r}(hF:zk6 n a0=some r):Con E0 true 130 [.agg [aI (a0.fSource),aI (a0.fSeq),aI (a0.fType),aI (a0.fTime),.sl 3 (a0.fValues.map z07)]] (R_event_Ref r):=by
 unfold zk6 at hF
 refine Con.walk _ Tryz.func130 rfl (z06 Tryz.func130 rfl rfl) rfl (Or.inr rfl) ?_
 repeat' first
  |refine AW.step ?_;conv=>whnf
  |exact RetX.oA hF
def zwc (r:Int):AV:=aI (r)
theorem con_event_Compare {n a0 a1 r}(hF:ze4 n a0 a1=some r):Con E0 true 103 [.agg [aI (a0.fSource),aI (a0.fSeq),aI (a0.fType),aI (a0.fTime),.sl 3 (a0.fValues.map z07)],.agg [aI (a1.fSource),aI (a1.fSeq),aI (a1.fType),aI (a1.fTime),.sl 3 (a1.fValues.map z07)]] (zwc r):=by
 unfold ze4 at hF
 refine Con.walk _ Tryz.func103 rfl (z06 Tryz.func103 rfl rfl) rfl (Or.inr rfl) ?_
 repeat' first
  |refine AW.step ?_;conv=>whnf
  |refine z0v.o hF (fun hF=>?_) (fun hF=>?_)
  |refine z0m.o hF R_event_Ref (fun a h=>con_event_Ref h) (fun a hF=>?_)
  |refine z0m.o hF zcw (fun a h=>zbw h) (fun a hF=>?_)
  |refine z0m.o hF zwx (fun a h=>zol h) (fun a hF=>?_)
  |refine And.intro ⟨by kernel_rfl,by kernel_rfl⟩ ?_
  |refine EqX.mk (by first|rfl|kernel_rfl) ?_
  |exact RetX.oA hF
def R_stream_of (r:z4q):AV:=.agg [aI (r.fsource),aI (r.fseq)]
theorem con_stream_of {n a0 r}(hF:zez n a0=some r):Con E0 true 104 [.agg [aI (a0.fSource),aI (a0.fSeq),aI (a0.fType),aI (a0.fTime),.sl 3 (a0.fValues.map z07)]] (R_stream_of r):=by
 unfold zez at hF
 refine Con.walk _ Tryz.func104 rfl (z06 Tryz.func104 rfl rfl) rfl (Or.inr rfl) ?_
 repeat' first
  |refine AW.step ?_;conv=>whnf
  |exact RetX.oA hF
theorem eqK_163 (a b:z4q):eqK (z9u a) (z9u b)=some (decide (a=b)):=by cases a;cases b;simp [z9u,eqK,eqL,eq1,aI,zom]
def S_stream_Check_l1 (a0:(List z01))(v1_0:Int×(List (z4q×Bool))):AS:=⟨[(0,.sl 5 (a0.map z04)),(3,.row 9),(10,.sl 5 (a0.map z04)),(11,aI (((a0.map z04).length:Int))),(12,aI (v1_0.1))],[(9,.mp (List.map (encM z9u AV.bool) (v1_0.2)))]⟩
theorem stream_Check_l1_o {n a0 k1_0_0}:z2d E0 43 (z8l n a0 k1_0_0) (S_stream_Check_l1 a0):=LoopA.oT fun _=>rfl
def zxw (r:Int):AV:=aI (r)
theorem con_stream_Check {n a0 r}(hF:zet n a0=some r):Con E0 true 71 [.sl 5 (a0.map z04)] (zxw r):=by
 unfold zet at hF
 refine Con.walk _ Tryz.func71 rfl (z06 Tryz.func71 rfl rfl) rfl (Or.inr rfl) ?_
 repeat' first
  |refine AW.step ?_;conv=>whnf
  |refine z0v.o hF (fun hF=>?_) (fun hF=>?_)
  |refine z0v.f ?_
  |refine IdxX.o z04 hF (fun x hF=>?_)
  |refine z0m.o hF zw6 (fun a h=>con_stream_placed h) (fun a hF=>?_)
  |refine z0m.o hF zwc (fun a h=>con_event_Compare h) (fun a hF=>?_)
  |refine z0m.o hF R_stream_of (fun a h=>con_stream_of h) (fun a hF=>?_)
  |refine LkX.o z9u AV.bool hF (by first|rfl|kernel_rfl) eqK_163 (by repeat' first|exact Sub.nil _|exact Sub.refl _|refine Sub.agg ?_|refine Sub.tup ?_|refine Sub.fn ?_|exact SubL.nil|refine SubL.cons ?_ ?_|refine Sub.sl _ ?_|exact SubE.nil|refine SubE.cons ?_ ?_) (fun v b hF=>?_)
  |refine UpX.o z9u AV.bool hF (by first|rfl|kernel_rfl) eqK_163 (by repeat' first|exact Sub.nil _|exact Sub.refl _|refine Sub.agg ?_|refine Sub.tup ?_|refine Sub.fn ?_|exact SubL.nil|refine SubL.cons ?_ ?_|refine Sub.sl _ ?_|exact SubE.nil|refine SubE.cons ?_ ?_) (fun l hF=>?_)
  |exact ⟨_,hF,LeX.a []⟩
  |refine stream_Check_l1_o hF (LeX.a []) (fun m v hF=>?_);unfold z8l at hF
  |refine And.intro ⟨by kernel_rfl,by kernel_rfl⟩ ?_
  |exact RetX.oA hF
theorem eqK_108 (a b:z1h):eqK (z78 a) (z78 b)=some (decide (a=b)):=by cases a;cases b;simp [z78,eqK,eqL,eq1,aI,zom]
def zql:Option z0q->AV
 |none=>.nilp
 |some x=>.ref [aI (x.fa.fVars),aI (x.fa.fScopes),.sl 1 (x.fa.fStates.map z0c),.sl 17 (x.fa.fEdges.map z0d),.mapv (List.map (encM z78 z04) (x.fheld))]
def S_run_begin_l1 (a1:(List z01))(a0:z05)(v1_0:Int×(List (z1h×z01))):AS:=⟨[(8,.ptr 24 0),(25,.sl 5 (a1.map z04)),(26,aI (((a1.map z04).length:Int))),(27,aI (v1_0.1))],[(24,.box 133 [aI (a0.fVars),aI (a0.fScopes),.sl 1 (a0.fStates.map z0c),.sl 17 (a0.fEdges.map z0d),.row 22]),(22,.mp (List.map (encM z78 z04) (v1_0.2)))]⟩
theorem run_begin_l1_o {n a1 a0 k1_0_0}:z2d E0 40 (zd4 n a1 a0 k1_0_0) (S_run_begin_l1 a1 a0):=LoopA.oT fun _=>rfl
def zs3 (r:(Option z0q)×Int):AV:=.tup [zql (r.1),aI (r.2)]
theorem con_run_begin {n a0 a1 r}(hF:zgr n a0 a1=some r):Con E0 false 39 [.agg [aI (a0.fVars),aI (a0.fScopes),.sl 1 (a0.fStates.map z0c),.sl 17 (a0.fEdges.map z0d)],.sl 5 (a1.map z04)] (zs3 r):=by
 unfold zgr at hF
 refine Con.walk _ Tryz.func39 rfl (z06 Tryz.func39 rfl rfl) rfl (Or.inl rfl) ?_
 repeat' first
  |refine AW.step ?_;conv=>whnf
  |refine z0v.o hF (fun hF=>?_) (fun hF=>?_)
  |refine z0m.o hF zps (fun a h=>zyi h) (fun a hF=>?_)
  |refine z0m.o hF zxw (fun a h=>con_stream_Check h) (fun a hF=>?_)
  |refine IdxX.o z04 hF (fun x hF=>?_)
  |refine OpX.nckP rfl rfl rfl rfl rfl ?_
  |refine z0m.o hF R_run_ref (fun a h=>con_run_ref h) (fun a hF=>?_)
  |refine UpX.o z78 z04 hF (by first|rfl|kernel_rfl) eqK_108 (by repeat' first|exact Sub.nil _|exact Sub.refl _|refine Sub.agg ?_|refine Sub.tup ?_|refine Sub.fn ?_|exact SubL.nil|refine SubL.cons ?_ ?_|refine Sub.sl _ ?_|exact SubE.nil|refine SubE.cons ?_ ?_) (fun l hF=>?_)
  |exact ⟨_,hF,LeX.a []⟩
  |refine run_begin_l1_o hF (LeX.a []) (fun m v hF=>?_);unfold zd4 at hF
  |refine And.intro ⟨by kernel_rfl,by kernel_rfl⟩ ?_
  |exact RetX.oA hF
def R_run_Begin (r:z00):AV:=.agg [aI (r.fState),.sl 4 (r.fBindings.map z0a),.sl 2 (r.fStarts.map z08)]
theorem con_run_Begin {n r}(hF:zk3 n=some r):Con E0 false 40 [] (R_run_Begin r):=by
 unfold zk3 at hF
 refine Con.walk _ Tryz.func40 rfl (z06 Tryz.func40 rfl rfl) rfl (Or.inl rfl) ?_
 repeat' first
  |refine AW.step ?_;conv=>whnf
  |exact RetX.oA hF
def zwe (a0:z0q)(a1:z00)(a2:z01):List (Nat×Ent):=[]
def zb0 (r:z0q×z00×z01):List (Nat×Ent):=[(3,.box 94 [.ref [aI (r.1.fa.fVars),aI (r.1.fa.fScopes),.sl 1 (r.1.fa.fStates.map z0c),.sl 17 (r.1.fa.fEdges.map z0d),.mapv (List.map (encM z78 z04) (r.1.fheld))]]),(4,.box 77 [aI (r.2.1.fState),.sl 4 (r.2.1.fBindings.map z0a),.sl 2 (r.2.1.fStarts.map z08)]),(5,.box 66 [aI (r.2.2.fSource),aI (r.2.2.fSeq),aI (r.2.2.fType),aI (r.2.2.fTime),.sl 3 (r.2.2.fValues.map z07)])]
def zdr (r:z0q×z00×z01):AV:=.fn 105 [.ptr 3 0,.ptr 4 0,.ptr 5 0]
def zvp (r:z0q×z00×z01):AS:=⟨[(6,.fn 105 [.ptr 3 0,.ptr 4 0,.ptr 5 0])],zb0 r⟩
theorem zr4 {n a0 a1 a2 r}(hF:zb9 n a0 a1 a2=some r):ConG E0.P none (CalF E0.P 73 0) [.ref [aI (a0.fa.fVars),aI (a0.fa.fScopes),.sl 1 (a0.fa.fStates.map z0c),.sl 17 (a0.fa.fEdges.map z0d),.mapv (List.map (encM z78 z04) (a0.fheld))],.agg [aI (a1.fState),.sl 4 (a1.fBindings.map z0a),.sl 2 (a1.fStarts.map z08)],.agg [aI (a2.fSource),aI (a2.fSeq),aI (a2.fType),aI (a2.fTime),.sl 3 (a2.fValues.map z07)]] [] (zwe a0 a1 a2) (zdr r) (zb0 r):=by
 unfold zb9 at hF
 refine ConG.walk (E:=(E0p 3)) (caps:=[]) _ Tryz.func73 rfl rfl rfl rfl rfl ?_
 repeat' first
  |refine AW.step ?_;conv=>whnf
  |refine GX.o (res:=zdr) (meF:=zb0) hF ?_;exact GX.mk (zvp _) (LeX.a []) rfl _ rfl (by repeat' first|exact Sub.nil _|exact Sub.refl _|refine Sub.agg ?_|refine Sub.tup ?_|refine Sub.fn ?_|exact SubL.nil|refine SubL.cons ?_ ?_|refine Sub.sl _ ?_|exact SubE.nil|refine SubE.cons ?_ ?_) [] trivial rfl
def zpu (m0:(List z00))(m1:(List z03)):List (Nat×Ent):=[(100000,.box 29 [.row 200000]),(200000,.row 77 3 (m0.map z0e)),(100001,.box 30 [.row 200001]),(200001,.row 83 1 (m1.map z0f))]
def z3l (r:(List z00)×(List z03)):List (Nat×Ent):=[(100000,.box 29 [.row 250000]),(250000,.row 77 3 (r.1.map z0e)),(100001,.box 30 [.row 250001]),(250001,.row 83 1 (r.2.map z0f))]
def zf3 (r:(List z00)×(List z03)):AS:=⟨[(8,.ptr 100000 0),(9,.ptr 100001 0)],z3l r⟩
def zxi (a1:(List z0u))(a0:z0q)(x1:Nat)(v1_0:Int×(List (List z01))):AS:=⟨[(0,.ref [aI (a0.fa.fVars),aI (a0.fa.fScopes),.sl 1 (a0.fa.fStates.map z0c),.sl 17 (a0.fa.fEdges.map z0d),.mapv (List.map (encM z78 z04) (a0.fheld))]),(4,.ptr 4 0),(5,.ptr 5 0),(15,.sl 4 (a1.map z0a)),(16,aI (((a1.map z0a).length:Int))),(17,aI (v1_0.1))],[(4,.box 167 [.nils]),(5,.box 167 [.cont (x1) 13]),(13,.nest 26 (List.map (enR z04 66 5) (v1_0.2)))]⟩
theorem zwz {n a1 a0 x1 k1_0_0}:z2d E0 43 (z88 n a1 a0 x1 k1_0_0) (zxi a1 a0 x1):=LoopA.oT fun _=>rfl
def zpn (r:z0h):AV:=.agg [.sl 1 (List.map (fun q=>AV.sl 5 (List.map z04 q)) (r.fVars))]
theorem zyd {n a0 a1 r}(hF:zc4 n a0 a1=some r):Con E0 false 106 [.ref [aI (a0.fa.fVars),aI (a0.fa.fScopes),.sl 1 (a0.fa.fStates.map z0c),.sl 17 (a0.fa.fEdges.map z0d),.mapv (List.map (encM z78 z04) (a0.fheld))],.sl 4 (a1.map z0a)] (zpn r):=by
 unfold zc4 at hF
 refine Con.walk _ Tryz.func106 rfl (z06 Tryz.func106 rfl rfl) rfl (Or.inl rfl) ?_
 repeat' first
  |refine AW.nstO (er:=z04) 66 5 hF 13 rfl (fun hF=>?_)
  |refine AW.frrO (ety:=66) (sz:=5) z04 hF 13 rfl (fun hF=>?_)
  |refine AW.regO hF (fun hF=>?_)
  |refine AW.stepU [7,2] ?_;conv=>whnf
  |refine z0v.o hF (fun hF=>?_) (fun hF=>?_)
  |refine OpX.nckR rfl rfl rfl rfl ?_
  |refine MakX.on hF (fun m hF=>?_)
  |refine IdxX.o z0a hF (fun x hF=>?_)
  |refine OpX.ixc hF rfl rfl rfl rfl rfl rfl rfl rfl (fun hF=>?_)
  |refine OpX.ntk z04 hF rfl rfl rfl rfl rfl rfl rfl rfl rfl rfl (fun q hF=>?_)
  |refine OpX.lkv z78 z04 hF eqK_108 rfl rfl rfl rfl rfl rfl rfl rfl rfl rfl (by first|rfl|kernel_rfl) (by repeat' first|exact Sub.nil _|exact Sub.refl _|refine Sub.agg ?_|refine Sub.tup ?_|refine Sub.fn ?_|exact SubL.nil|refine SubL.cons ?_ ?_|refine Sub.sl _ ?_|exact SubE.nil|refine SubE.cons ?_ ?_) (fun v b hF=>?_)
  |refine AppX.o z04 hF (by first|exact SubR.refl _|(repeat' first|exact SubR.nil|refine SubR.cons ?_ ?_|exact SubL.nil|refine SubL.cons ?_ ?_|exact Sub.refl _|exact Sub.nil _)) (fun l hF=>?_)
  |refine OpX.npt z04 hF rfl rfl rfl rfl rfl rfl rfl rfl rfl rfl rfl (fun l hF=>?_)
  |exact ⟨_,hF,LeX.a []⟩
  |refine zwz hF (LeX.a []) (fun m v hF=>?_);unfold z88 at hF
  |refine And.intro ⟨by kernel_rfl,by kernel_rfl⟩ ?_
  |refine EqX.mk (by first|rfl|kernel_rfl) ?_
  |exact RetX.oA hF
end Go.Proofs.YtjpknpjjcddnnaaGreat
namespace Go.Proofs.YtjpknpjjcddnnaaGreat
open Go.RowKit
theorem zyh:Con E0 false 198 [] (.mapv [(aI (5),.fn 210 [.ref [.fn 209 []]]),(aI (6),.fn 211 [.ref [.fn 209 []]]),(aI (7),.fn 212 []),(aI (8),.fn 213 []),(aI (10),.fn 214 []),(aI (11),.fn 215 []),(aI (12),.fn 216 [])]):=by
 refine Con.walk _ Tryz.func198 rfl (z06 Tryz.func198 rfl rfl) rfl (Or.inl rfl) ?_
 repeat' first
  |refine AW.frb0 1 rfl rfl ?_
  |refine AW.into ?_
  |refine AW.stepU [2] ?_;conv=>whnf
  |refine UpX.mk _ _ (by first|rfl|kernel_rfl) (by first|rfl|kernel_rfl) (SubM.refl _) ?_
  |exact RetX.mk rfl
def zji (a1:Int)(a0f2:z01)(a0f1:Int)(a0f0:z0h)(w1_0:Bool):AS:=⟨[(1,aI (a1)),(2,.ptr 2 0),(14,.bool (w1_0))],[(2,.box 253 [.sl 1 (List.map (fun q=>AV.sl 5 (List.map z04 q)) (a0f0.fVars)),aI (a0f1),aI (a0f2.fSource),aI (a0f2.fSeq),aI (a0f2.fType),aI (a0f2.fTime),.sl 3 (a0f2.fValues.map z07),.mapv [(aI (5),.fn 210 [.ref [.fn 209 []]]),(aI (6),.fn 211 [.ref [.fn 209 []]]),(aI (7),.fn 212 []),(aI (8),.fn 213 []),(aI (10),.fn 214 []),(aI (11),.fn 215 []),(aI (12),.fn 216 [])]])]⟩
theorem ziy {n a1 a0f2 a0f1 a0f0}:z5l E0 21 (z2f n a1 a0f2 a0f1 a0f0) (zji a1 a0f2 a0f1 a0f0):=AW.jT
def zc2 (r:(List z01)):AV:=.sl 5 (r.map z04)
theorem zed {n a0f0 a0f1 a0f2 a1 r}(hF:z62 n a0f0 a0f1 a0f2 a1=some r):Con E0 false 224 [.agg [.sl 1 (List.map (fun q=>AV.sl 5 (List.map z04 q)) (a0f0.fVars)),aI (a0f1),aI (a0f2.fSource),aI (a0f2.fSeq),aI (a0f2.fType),aI (a0f2.fTime),.sl 3 (a0f2.fValues.map z07),.mapv [(aI (5),.fn 210 [.ref [.fn 209 []]]),(aI (6),.fn 211 [.ref [.fn 209 []]]),(aI (7),.fn 212 []),(aI (8),.fn 213 []),(aI (10),.fn 214 []),(aI (11),.fn 215 []),(aI (12),.fn 216 [])]],aI (a1)] (zc2 r):=by
 unfold z62 at hF
 refine Con.walk _ Tryz.func224 rfl (z06 Tryz.func224 rfl rfl) rfl (Or.inl rfl) ?_
 repeat' first
  |refine ziy hF (fun hF=>?_) (fun v hF=>?_);rotate_left;unfold z2f at hF
  |refine AW.regO hF (fun hF=>?_)
  |refine AW.stepU [1] ?_;conv=>whnf
  |refine z0v.o hF (fun hF=>?_) (fun hF=>?_)
  |refine IdxX.o (fun q=>AV.sl 5 (List.map z04 q)) hF (fun x hF=>?_)
  |exact ⟨_,hF,LeX.a []⟩
  |exact RetX.oA hF
def zwb (r:z02×Int):AV:=.tup [.agg [aI (r.1.fKind),aI (r.1.fNum),.str (r.1.fText)],aI (r.2)]
theorem zxv {n a0 a1 r}(hF:ze2 n a0 a1=some r):Con E0 true 226 [.agg [aI (a0.fSource),aI (a0.fSeq),aI (a0.fType),aI (a0.fTime),.sl 3 (a0.fValues.map z07)],aI (a1)] (zwb r):=by
 unfold ze2 at hF
 refine Con.walk _ Tryz.func226 rfl (z06 Tryz.func226 rfl rfl) rfl (Or.inr rfl) ?_
 repeat' first
  |refine AW.step ?_;conv=>whnf
  |refine z0v.o hF (fun hF=>?_) (fun hF=>?_)
  |refine IdxX.o z07 hF (fun x hF=>?_)
  |exact RetX.oA hF
def zlc (a1:z0i)(x1:(List z01))(v1_0:Int×(List z02)):AS:=⟨[(3,.ptr 3 0),(4,.ptr 4 0),(6,.row 7034),(14,.sl 5 (x1.map z04)),(15,aI (((x1.map z04).length:Int))),(16,aI (v1_0.1))],[(3,.box 47 [aI (a1.fOp),.sl 8 (a1.fArgs.map idA),aI (a1.fVar),aI (a1.fField),aI (a1.fKind),aI (a1.fValue.fKind),aI (a1.fValue.fNum),.str (a1.fValue.fText)]),(4,.box 45 [aI (0),aI (0),.str (ByteArray.empty)]),(7034,.row 45 3 (v1_0.2.map z07))]⟩
theorem zkq {n a1 x1 k1_0_0}:z2d E0 44 (z4c n a1 x1 k1_0_0) (zlc a1 x1):=LoopA.oT fun _=>rfl
def zfv (r:z02×Int):AV:=.tup [.agg [aI (r.1.fKind),aI (r.1.fNum),.str (r.1.fText)],aI (r.2)]
theorem zmm {n a0f0 a0f1 a0f2 a1 r}(hF:z9r n a0f0 a0f1 a0f2 a1=some r):Con E0 true 225 [.agg [.sl 1 (List.map (fun q=>AV.sl 5 (List.map z04 q)) (a0f0.fVars)),aI (a0f1),aI (a0f2.fSource),aI (a0f2.fSeq),aI (a0f2.fType),aI (a0f2.fTime),.sl 3 (a0f2.fValues.map z07),.mapv [(aI (5),.fn 210 [.ref [.fn 209 []]]),(aI (6),.fn 211 [.ref [.fn 209 []]]),(aI (7),.fn 212 []),(aI (8),.fn 213 []),(aI (10),.fn 214 []),(aI (11),.fn 215 []),(aI (12),.fn 216 [])]],.agg [aI (a1.fOp),.sl 8 (a1.fArgs.map idA),aI (a1.fVar),aI (a1.fField),aI (a1.fKind),aI (a1.fValue.fKind),aI (a1.fValue.fNum),.str (a1.fValue.fText)]] (zfv r):=by
 unfold z9r at hF
 refine Con.walk _ Tryz.func225 rfl (z06 Tryz.func225 rfl rfl) rfl (Or.inr rfl) ?_
 repeat' first
  |refine AW.step ?_;conv=>whnf
  |refine z0v.o hF (fun hF=>?_) (fun hF=>?_)
  |refine z0m.o hF zc2 (fun a h=>zed h) (fun a hF=>?_)
  |refine zcc.o hF zy1 (fun a h=>con_aggregate_Of h) (fun _=>Or.inr rfl) (fun a hF=>?_)
  |refine IdxX.o z04 hF (fun x hF=>?_)
  |refine z0m.o hF zwb (fun a h=>zxv h) (fun a hF=>?_)
  |refine AppX.o z07 hF (by first|exact SubR.refl _|(repeat' first|exact SubR.nil|refine SubR.cons ?_ ?_|exact SubL.nil|refine SubL.cons ?_ ?_|exact Sub.refl _|exact Sub.nil _)) (fun l hF=>?_)
  |exact ⟨_,hF,LeX.a [(7034,34)]⟩
  |refine zkq hF (LeX.trans (LeX.adopt 6 7034 45 3 rfl rfl) (LeX.a [])) (fun m v hF=>?_);unfold z4c at hF
  |exact RetX.oA hF
def zn4 (x9:z02×Int)(w2_1:Int):AS:=⟨[(4,.ptr 4 0),(8,.ptr 8 0),(9,aI (w2_1))],[(4,.box 45 [aI (0),aI (0),.str (ByteArray.empty)]),(8,.box 45 [aI (x9.1.fKind),aI (x9.1.fNum),.str (x9.1.fText)])]⟩
theorem zm9 {n x9}:zi5 E0 71 (z36 n x9) (zn4 x9):=AW.jT2
def zn5 (a1:z0i)(w1_0:Int×Int×Int×Int×(List z02)):AS:=⟨[(3,.ptr 3 0),(4,.ptr 4 0),(7,.ptr 7 0)],[(3,.box 47 [aI (a1.fOp),.sl 8 (a1.fArgs.map idA),aI (a1.fVar),aI (a1.fField),aI (a1.fKind),aI (a1.fValue.fKind),aI (a1.fValue.fNum),.str (a1.fValue.fText)]),(4,.box 45 [aI (0),aI (0),.str (ByteArray.empty)]),(7,.box 66 [aI (w1_0.1),aI (w1_0.2.1),aI (w1_0.2.2.1),aI (w1_0.2.2.2.1),.sl 3 (w1_0.2.2.2.2.map z07)])]⟩
theorem zma {n a1}:zi5 E0 71 (z37 n a1) (zn5 a1):=AW.jT2
def zgc (r:z02×Int):AV:=.tup [.agg [aI (r.1.fKind),aI (r.1.fNum),.str (r.1.fText)],aI (r.2)]
theorem zoj {n a0f0 a0f1 a0f2 a1 r}(hF:z8j n a0f0 a0f1 a0f2 a1=some r):Con E0 true 217 [.agg [.sl 1 (List.map (fun q=>AV.sl 5 (List.map z04 q)) (a0f0.fVars)),aI (a0f1),aI (a0f2.fSource),aI (a0f2.fSeq),aI (a0f2.fType),aI (a0f2.fTime),.sl 3 (a0f2.fValues.map z07),.mapv [(aI (5),.fn 210 [.ref [.fn 209 []]]),(aI (6),.fn 211 [.ref [.fn 209 []]]),(aI (7),.fn 212 []),(aI (8),.fn 213 []),(aI (10),.fn 214 []),(aI (11),.fn 215 []),(aI (12),.fn 216 [])]],.agg [aI (a1.fOp),.sl 8 (a1.fArgs.map idA),aI (a1.fVar),aI (a1.fField),aI (a1.fKind),aI (a1.fValue.fKind),aI (a1.fValue.fNum),.str (a1.fValue.fText)]] (zgc r):=by
 unfold z8j at hF
 refine Con.walk _ Tryz.func217 rfl (z06 Tryz.func217 rfl rfl) rfl (Or.inr rfl) ?_
 repeat' first
  |refine zm9 hF (fun hF=>?_) (fun v hF=>?_);rotate_left;unfold z36 at hF
  |refine zma hF (fun hF=>?_) (fun v hF=>?_);rotate_left;unfold z37 at hF
  |refine AW.regO hF (fun hF=>?_)
  |refine AW.stepU [10,17] ?_;conv=>whnf
  |refine z0v.o hF (fun hF=>?_) (fun hF=>?_)
  |refine z0m.o hF zc2 (fun a h=>zed h) (fun a hF=>?_)
  |refine z0m.o hF zfv (fun a h=>zmm h) (fun a hF=>?_)
  |refine z0m.o hF zwb (fun a h=>zxv h) (fun a hF=>?_)
  |refine z0m.o hF zfl (fun a h=>zfb h) (fun a hF=>?_)
  |exact ⟨_,hF,LeX.a []⟩
  |refine IdxX.o z04 hF (fun x hF=>?_)
  |exact ⟨_,hF,LeX.a []⟩
  |exact RetX.oA hF
def zzo (a1:(List Int))(a0:Int)(v1_0:Int)(cv1_0:Int->Option (Int))(x41:Int)(w6_2:Bool):AS:=⟨[(0,aI (a0)),(1,.sl 1 (a1.map aI)),(6,aI (x41)),(7,.bool (true)),(8,.sl 1 (a1.map aI)),(9,aI (((a1.map aI).length:Int))),(10,aI (v1_0)),(14,aI (a0)),(22,.bool (w6_2))],[]⟩
theorem zzc {n a1 a0 v1_0 cv1_0 x41}:zi5 E0 38 (z6r n a1 a0 v1_0 cv1_0 x41) (zzo a1 a0 v1_0 cv1_0 x41):=AW.jT2
def zzp (a1:(List Int))(a0:Int)(v1_0:Int)(cv1_0:Int->Option (Int))(x41:Int)(w5_1:Bool):AS:=⟨[(0,aI (a0)),(1,.sl 1 (a1.map aI)),(6,aI (x41)),(7,.bool (true)),(8,.sl 1 (a1.map aI)),(9,aI (((a1.map aI).length:Int))),(10,aI (v1_0)),(14,aI (a0)),(15,.bool (w5_1))],[]⟩
theorem zzd {n a1 a0 v1_0 cv1_0 x41}:zi5 E0 38 (z5n n a1 a0 v1_0 cv1_0 x41) (zzp a1 a0 v1_0 cv1_0 x41):=AW.jT2
def zzn (a1:(List Int))(a0:Int)(v1_0:Int):AS:=⟨[(0,aI (a0)),(1,.sl 1 (a1.map aI)),(8,.sl 1 (a1.map aI)),(9,aI (((a1.map aI).length:Int))),(10,aI (v1_0))],[]⟩
theorem zzb {n a1 a0 k1_0_0}:z2d E0 38 (z3w n a1 a0 k1_0_0) (zzn a1 a0):=LoopA.oT fun _=>rfl
def zwa (r:Int):AV:=aI (r)
theorem con_expr_operands {n a0 a1 r}(hF:zfz n a0 a1=some r):Con E0 true 218 [aI (a0),.sl 1 (a1.map aI)] (zwa r):=by
 unfold zfz at hF
 refine Con.walk _ Tryz.func218 rfl (z06 Tryz.func218 rfl rfl) rfl (Or.inr rfl) ?_
 repeat' first
  |refine zzc hF (fun hF=>?_) (fun v hF=>?_);rotate_left;unfold z6r at hF
  |refine zzd hF (fun hF=>?_) (fun v hF=>?_);rotate_left;unfold z5n at hF
  |refine AW.regO hF (fun hF=>?_)
  |refine AW.stepU [6,7,8,11,12,15] ?_;conv=>whnf
  |refine z0v.o hF (fun hF=>?_) (fun hF=>?_)
  |refine z0v.f ?_
  |refine IdxX.o aI hF (fun x hF=>?_)
  |exact ⟨_,hF,LeX.a []⟩
  |exact ⟨_,hF,LeX.a []⟩
  |refine zzb hF (LeX.a []) (fun m v hF=>?_);unfold z3w at hF
  |exact RetX.oA hF
def R_value_Bool (r:z02):AV:=.agg [aI (r.fKind),aI (r.fNum),.str (r.fText)]
theorem con_value_Bool {n a0 r}(hF:zls n a0=some r):Con E0 true 200 [.bool (a0)] (R_value_Bool r):=by
 unfold zls at hF
 refine Con.walk _ Tryz.func200 rfl (z06 Tryz.func200 rfl rfl) rfl (Or.inr rfl) ?_
 repeat' first
  |refine AW.step ?_;conv=>whnf
  |refine z0v.o hF (fun hF=>?_) (fun hF=>?_)
  |exact RetX.oA hF
def zds (r:z02):AV:=.agg [aI (r.fKind),aI (r.fNum),.str (r.fText)]
theorem zcp {n a0 r}(hF:z84 n a0=some r):Con E0 true 173 [.bool (a0)] (zds r):=by
 unfold z84 at hF
 refine Con.walk _ Tryz.func173 rfl (z06 Tryz.func173 rfl rfl) rfl (Or.inr rfl) ?_
 repeat' first
  |refine AW.step ?_;conv=>whnf
  |refine z0m.o hF R_value_Bool (fun a h=>con_value_Bool h) (fun a hF=>?_)
  |exact RetX.oA hF
def zey (r:z02):AV:=.agg [aI (r.fKind),aI (r.fNum),.str (r.fText)]
theorem zh0 {n a0 r}(hF:zam n a0=some r):Con E0 true 209 [aI (a0)] (zey r):=by
 unfold zam at hF
 refine Con.walk _ Tryz.func209 rfl (z06 Tryz.func209 rfl rfl) rfl (Or.inr rfl) ?_
 repeat' first
  |refine AW.step ?_;conv=>whnf
  |exact RetX.oA hF
def zk0 (r:z02):AV:=.agg [aI (r.fKind),aI (r.fNum),.str (r.fText)]
theorem zvb {n a0 a1 r}(hF:zal n a0 a1=some r):Con E0 true 210 [aI (a0),aI (a1),.ref [.fn 209 []]] (zk0 r):=by
 unfold zal at hF
 refine Con.walk _ Tryz.func210 rfl (z06 Tryz.func210 rfl rfl) rfl (Or.inr rfl) ?_
 repeat' first
  |refine AW.step ?_;conv=>whnf
  |refine z0m.o hF zey (fun a h=>zh0 h) (fun a hF=>?_)
  |exact RetX.oA hF
def zjz (r:z02):AV:=.agg [aI (r.fKind),aI (r.fNum),.str (r.fText)]
theorem zva {n a0 a1 r}(hF:zak n a0 a1=some r):Con E0 true 211 [aI (a0),aI (a1),.ref [.fn 209 []]] (zjz r):=by
 unfold zak at hF
 refine Con.walk _ Tryz.func211 rfl (z06 Tryz.func211 rfl rfl) rfl (Or.inr rfl) ?_
 repeat' first
  |refine AW.step ?_;conv=>whnf
  |refine z0m.o hF zey (fun a h=>zh0 h) (fun a hF=>?_)
  |exact RetX.oA hF
def zjy (r:z02):AV:=.agg [aI (r.fKind),aI (r.fNum),.str (r.fText)]
theorem zv9 {n a0 a1 r}(hF:zaj n a0 a1=some r):Con E0 true 212 [aI (a0),aI (a1)] (zjy r):=by
 unfold zaj at hF
 refine Con.walk _ Tryz.func212 rfl (z06 Tryz.func212 rfl rfl) rfl (Or.inr rfl) ?_
 repeat' first
  |refine AW.step ?_;conv=>whnf
  |refine z0m.o hF zds (fun a h=>zcp h) (fun a hF=>?_)
  |exact RetX.oA hF
def zjx (r:z02):AV:=.agg [aI (r.fKind),aI (r.fNum),.str (r.fText)]
theorem zv8 {n a0 a1 r}(hF:zai n a0 a1=some r):Con E0 true 213 [aI (a0),aI (a1)] (zjx r):=by
 unfold zai at hF
 refine Con.walk _ Tryz.func213 rfl (z06 Tryz.func213 rfl rfl) rfl (Or.inr rfl) ?_
 repeat' first
  |refine AW.step ?_;conv=>whnf
  |refine z0m.o hF zds (fun a h=>zcp h) (fun a hF=>?_)
  |exact RetX.oA hF
def zu9 (w1_0:Int×Int×ByteArray):AS:=⟨[(4,.ptr 4 0)],[(4,.box 45 [aI (w1_0.1),aI (w1_0.2.1),.str (w1_0.2.2)])]⟩
theorem zt3 {n}:z5l E0 12 (z5i n) zu9:=AW.jT
def zjw (r:z02):AV:=.agg [aI (r.fKind),aI (r.fNum),.str (r.fText)]
theorem zv7 {n a0 a1 r}(hF:zah n a0 a1=some r):Con E0 true 214 [aI (a0),aI (a1)] (zjw r):=by
 unfold zah at hF
 refine Con.walk _ Tryz.func214 rfl (z06 Tryz.func214 rfl rfl) rfl (Or.inr rfl) ?_
 repeat' first
  |refine zt3 hF (fun hF=>?_) (fun v hF=>?_);rotate_left;unfold z5i at hF
  |refine AW.regO hF (fun hF=>?_)
  |refine AW.stepU [1] ?_;conv=>whnf
  |refine z0v.o hF (fun hF=>?_) (fun hF=>?_)
  |refine z0m.o hF zds (fun a h=>zcp h) (fun a hF=>?_)
  |exact ⟨_,hF,LeX.a []⟩
  |exact RetX.oA hF
def zu8 (w1_0:Int×Int×ByteArray):AS:=⟨[(4,.ptr 4 0)],[(4,.box 45 [aI (w1_0.1),aI (w1_0.2.1),.str (w1_0.2.2)])]⟩
theorem zt2 {n}:z5l E0 12 (z5h n) zu8:=AW.jT
def zjv (r:z02):AV:=.agg [aI (r.fKind),aI (r.fNum),.str (r.fText)]
theorem zv6 {n a0 a1 r}(hF:zag n a0 a1=some r):Con E0 true 215 [aI (a0),aI (a1)] (zjv r):=by
 unfold zag at hF
 refine Con.walk _ Tryz.func215 rfl (z06 Tryz.func215 rfl rfl) rfl (Or.inr rfl) ?_
 repeat' first
  |refine zt2 hF (fun hF=>?_) (fun v hF=>?_);rotate_left;unfold z5h at hF
  |refine AW.regO hF (fun hF=>?_)
  |refine AW.stepU [1] ?_;conv=>whnf
  |refine z0v.o hF (fun hF=>?_) (fun hF=>?_)
  |refine z0m.o hF zds (fun a h=>zcp h) (fun a hF=>?_)
  |exact ⟨_,hF,LeX.a []⟩
  |exact RetX.oA hF
def zju (r:z02):AV:=.agg [aI (r.fKind),aI (r.fNum),.str (r.fText)]
theorem zv5 {n a0 a1 r}(hF:z7h n a0 a1=some r):Con E0 true 216 [aI (a0),aI (a1)] (zju r):=by
 unfold z7h at hF
 refine Con.walk _ Tryz.func216 rfl (z06 Tryz.func216 rfl rfl) rfl (Or.inr rfl) ?_
 repeat' first
  |refine AW.step ?_;conv=>whnf
  |refine z0m.o hF zds (fun a h=>zcp h) (fun a hF=>?_)
  |exact RetX.oA hF
def zn6 (rF_expr_evaluator__eval:z0h->Int->z01->z0i->Option (z02×Int))(a1:z0i)(a0f2:z01)(a0f1:Int)(a0f0:z0h)(v1_0:Int×(List z02)×(List Int)):AS:=⟨[(2,.ptr 2 0),(3,.ptr 3 0),(4,.ptr 4 0),(6,.row 7042),(7,.row 7047),(23,.sl 8 (a1.fArgs.map idA)),(24,aI (((a1.fArgs.map idA).length:Int))),(25,aI (v1_0.1))],[(2,.box 253 [.sl 1 (List.map (fun q=>AV.sl 5 (List.map z04 q)) (a0f0.fVars)),aI (a0f1),aI (a0f2.fSource),aI (a0f2.fSeq),aI (a0f2.fType),aI (a0f2.fTime),.sl 3 (a0f2.fValues.map z07),.mapv [(aI (5),.fn 210 [.ref [.fn 209 []]]),(aI (6),.fn 211 [.ref [.fn 209 []]]),(aI (7),.fn 212 []),(aI (8),.fn 213 []),(aI (10),.fn 214 []),(aI (11),.fn 215 []),(aI (12),.fn 216 [])]]),(3,.box 47 [aI (a1.fOp),.sl 8 (a1.fArgs.map idA),aI (a1.fVar),aI (a1.fField),aI (a1.fKind),aI (a1.fValue.fKind),aI (a1.fValue.fNum),.str (a1.fValue.fText)]),(4,.box 45 [aI (0),aI (0),.str (ByteArray.empty)]),(7042,.row 45 3 (v1_0.2.1.map z07)),(7047,.row 3 1 (v1_0.2.2.map aI))]⟩
theorem zmb {n rF_expr_evaluator__eval a1 a0f2 a0f1 a0f0 k1_0_0}:z2d E0 85 (z4z n rF_expr_evaluator__eval a1 a0f2 a0f1 a0f0 k1_0_0) (zn6 rF_expr_evaluator__eval a1 a0f2 a0f1 a0f0):=LoopA.oT fun _=>rfl
def zdc (r:z02×Int):AV:=.tup [.agg [aI (r.1.fKind),aI (r.1.fNum),.str (r.1.fText)],aI (r.2)]
theorem zok {n a0f0 a0f1 a0f2 a1 r}(hF:z3i n a0f0 a0f1 a0f2 a1=some r):Con E0 true 199 [.agg [.sl 1 (List.map (fun q=>AV.sl 5 (List.map z04 q)) (a0f0.fVars)),aI (a0f1),aI (a0f2.fSource),aI (a0f2.fSeq),aI (a0f2.fType),aI (a0f2.fTime),.sl 3 (a0f2.fValues.map z07),.mapv [(aI (5),.fn 210 [.ref [.fn 209 []]]),(aI (6),.fn 211 [.ref [.fn 209 []]]),(aI (7),.fn 212 []),(aI (8),.fn 213 []),(aI (10),.fn 214 []),(aI (11),.fn 215 []),(aI (12),.fn 216 [])]],.agg [aI (a1.fOp),.sl 8 (a1.fArgs.map idA),aI (a1.fVar),aI (a1.fField),aI (a1.fKind),aI (a1.fValue.fKind),aI (a1.fValue.fNum),.str (a1.fValue.fText)]] (zdc r):=by
 induction n generalizing a0f0 a0f1 a0f2 a1 r
 case zero=>cases hF
 case succ n ih =>
 unfold z3i at hF
 refine Con.walk _ Tryz.func199 rfl (z06 Tryz.func199 rfl rfl) rfl (Or.inr rfl) ?_
 repeat' first
  |refine AW.step ?_;conv=>whnf
  |refine z0v.o hF (fun hF=>?_) (fun hF=>?_)
  |refine z0m.o hF zgc (fun a h=>zoj h) (fun a hF=>?_)
  |refine zcc.o hF zwa (fun a h=>con_expr_operands h) (fun _=>Or.inr rfl) (fun a hF=>?_)
  |refine NatX.o hF (fun m hF=>?_)
  |refine EltX.o z07 hF (fun x hF=>?_)
  |refine z0m.o hF zds (fun a h=>zcp h) (fun a hF=>?_)
  |refine OpX.lkc rfl rfl rfl rfl rfl rfl rfl rfl rfl rfl (by first|rfl|kernel_rfl) ?_
  |refine LkC.cons hF (fun hF=>?_) (fun hF=>?_)
  |(cases hF;done)
  |refine LtX.o hF (fun hF=>?_)
  |refine z0m.o hF zk0 (fun a h=>zvb h) (fun a hF=>?_)
  |refine z0m.o hF zjz (fun a h=>zva h) (fun a hF=>?_)
  |refine z0m.o hF zjy (fun a h=>zv9 h) (fun a hF=>?_)
  |refine z0m.o hF zjx (fun a h=>zv8 h) (fun a hF=>?_)
  |refine z0m.o hF zjw (fun a h=>zv7 h) (fun a hF=>?_)
  |refine z0m.o hF zjv (fun a h=>zv6 h) (fun a hF=>?_)
  |refine z0m.o hF zju (fun a h=>zv5 h) (fun a hF=>?_)
  |refine IdxX.oD hF z6b (fun x hF=>?_)
  |refine z0m.o hF zdc (fun a h=>ih h) (fun a hF=>?_)
  |refine AppX.o z07 hF (by first|exact SubR.refl _|(repeat' first|exact SubR.nil|refine SubR.cons ?_ ?_|exact SubL.nil|refine SubL.cons ?_ ?_|exact Sub.refl _|exact Sub.nil _)) (fun l hF=>?_)
  |refine AppX.o aI hF (by first|exact SubR.refl _|(repeat' first|exact SubR.nil|refine SubR.cons ?_ ?_|exact SubL.nil|refine SubL.cons ?_ ?_|exact Sub.refl _|exact Sub.nil _)) (fun l hF=>?_)
  |exact ⟨_,hF,LeX.a [(7042,42),(7047,47)]⟩
  |refine zmb hF (LeX.trans (LeX.adopt 6 7042 45 3 rfl rfl) (LeX.trans (LeX.adopt 7 7047 3 1 rfl rfl) (LeX.a []))) (fun m v hF=>?_);unfold z4z at hF
  |refine And.intro ⟨by kernel_rfl,by kernel_rfl⟩ ?_
  |refine EqX.mk (by first|rfl|kernel_rfl) ?_
  |exact RetX.oA hF
def R_expr_Eval (r:z02×Int):AV:=.tup [.agg [aI (r.1.fKind),aI (r.1.fNum),.str (r.1.fText)],aI (r.2)]
end Go.Proofs.YtjpknpjjcddnnaaGreat
