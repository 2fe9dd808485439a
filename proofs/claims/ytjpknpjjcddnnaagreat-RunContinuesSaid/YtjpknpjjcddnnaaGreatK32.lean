/- What some functions compute, over plain values. Printed by a program of mine (gen_fun.lean). -/
import Derived.Test.YtjpknpjjcddnnaaGreatK31
set_option linter.unusedVariables false
set_option linter.unusedSimpArgs false
set_option maxRecDepth 100000
set_option maxHeartbeats 8000000
namespace Go.Proofs.YtjpknpjjcddnnaaGreat
open Go.RowKit
theorem con_run_intime {n a0 a1 a2 r}(hF:zj1 n a0 a1 a2=some r):Con E0 true 135 [.sl 2 (a0.map z07),.sl 2 (a1.map z0r),aI (a2)] (R_run_intime r):=by
 unfold zj1 at hF
 refine Con.walk _ Tryz.func135 rfl (z08 Tryz.func135 rfl rfl) rfl (Or.inr rfl) ?_
 repeat' first
  |refine run_intime_j3_o hF (fun hF=>?_) (fun v hF=>?_);rotate_left;unfold zb8 at hF
  |refine AW.regO hF (fun hF=>?_)
  |refine AW.stepU [5] ?_;conv=>whnf
  |refine z0v.o hF (fun hF=>?_) (fun hF=>?_)
  |refine IdxX.o z0r hF (fun x hF=>?_)
  |refine zbm.o hF zgu (fun a h=>zo5 h) (fun _=>Or.inr rfl) (fun a hF=>?_)
  |exact ⟨_,hF,LeX.a []⟩
  |exact ⟨_,hF,LeX.a []⟩
  |refine IdxX.o z07 hF (fun x hF=>?_)
  |refine run_intime_l1_o hF (LeX.a []) (fun m v hF=>?_);unfold z9s at hF
  |refine And.intro ⟨by kernel_rfl,by kernel_rfl⟩ ?_
  |exact RetX.oA hF
set_option maxHeartbeats 400000 in
theorem clone136_any (l:List (Cel 1))(S:Nat->Prop)(v:Value)(w:World)(h:Sl w S 1 encC v l)(hl:l.length<=1000000000) :
  Calls Tryz.prog 136 #[v] w (RetOwn 26 1 encC l w):=by
 have eok:EOk Tryz.prog 165 26 1 24 (encC (n:=1)):=eokC (sz:=1) tyOk165 rfl tyOk26 (by omega) rfl
 obtain ⟨A,c,rfl,hc,_⟩:=h.form
 have hq:=fun (W:World)=>Lib.run_eql_slice_nil W 165 26 A l.length c 0 0 Tryz.underlying165
 have H:=hide h
 cases A with
 |none =>
  have h0:l=[]:=h.none_nil
  subst h0
  clear h H hl hc
  simp only [List.length_nil,Option.isNone_none] at hq ⊢
  go_enter Tryz.func136,Tryz.ntmps136
  go_wp2
  go_ret
  exact ⟨none,0,rfl,Own.nil_,by go_grown⟩
 |some ad =>
  clear h
  go_enter Tryz.func136,Tryz.ntmps136
  go_wp2_with (at_builtin;refine z9y rfl _ _ rfl eok rfl Own.made_ rfl (H.out.alloc _) (by simp;omega) (by omega) (by simp) ?_;intro A' c' w1 ho hg _)
  go_ret
  exact ⟨A',c',rfl,ho,(Own.made_ (sz:=1) (enc:=encC (n:=1))).grown ((Below.refl _ _).alloc (Nat.le_refl _) _) (Nat.le_refl _) (by simp) hg⟩
theorem conT_clone136 {n a r}(hF:zd7 n a=some r):ConT E0 136 [.sl 1 (List.map (fun q=>AV.sl 5 (List.map z04 q)) a)] 26 1 (List.map (fun q=>AV.sl 5 (List.map z04 q)) r) (.row 0):=zqg rfl (z08 Tryz.func136 rfl rfl) clone136_any hF
set_option maxHeartbeats 400000 in
theorem clone137_any (l:List (Cel 5))(S:Nat->Prop)(v:Value)(w:World)(h:Sl w S 5 encC v l)(hl:l.length<=1000000000) :
  Calls Tryz.prog 137 #[v] w (RetOwn 66 5 encC l w):=by
 have eok:EOk Tryz.prog 26 66 5 56 (encC (n:=5)):=eokC (sz:=5) tyOk26 rfl tyOk66 (by omega) rfl
 obtain ⟨A,c,rfl,hc,_⟩:=h.form
 have hq:=fun (W:World)=>Lib.run_eql_slice_nil W 26 66 A l.length c 0 0 Tryz.underlying26
 have H:=hide h
 cases A with
 |none =>
  have h0:l=[]:=h.none_nil
  subst h0
  clear h H hl hc
  simp only [List.length_nil,Option.isNone_none] at hq ⊢
  go_enter Tryz.func137,Tryz.ntmps137
  go_wp2
  go_ret
  exact ⟨none,0,rfl,Own.nil_,by go_grown⟩
 |some ad =>
  clear h
  go_enter Tryz.func137,Tryz.ntmps137
  go_wp2_with (at_builtin;refine z9y rfl _ _ rfl eok rfl Own.made_ rfl (H.out.alloc _) (by simp;omega) (by omega) (by simp) ?_;intro A' c' w1 ho hg _)
  go_ret
  exact ⟨A',c',rfl,ho,(Own.made_ (sz:=5) (enc:=encC (n:=5))).grown ((Below.refl _ _).alloc (Nat.le_refl _) _) (Nat.le_refl _) (by simp) hg⟩
theorem conT_clone137 {n a r}(hF:zd7 n a=some r):ConT E0 137 [.sl 5 (List.map z04 a)] 66 5 (List.map z04 r) (.row 0):=zqg rfl (z08 Tryz.func137 rfl rfl) clone137_any hF
def zgx (r:Bool):AV:=.bool (r)
theorem zo8 {n a0 a1 r}(hF:z4y n a0 a1=some r):Con E0 true 139 [.agg [aI (a0.fScope),aI (a0.fTime)],.ref [aI (a1.fFrom),aI (a1.fTo),aI (a1.fVar),aI (a1.fType),aI (a1.fCond.fOp),.sl 8 (a1.fCond.fArgs.map idA),aI (a1.fCond.fVar),aI (a1.fCond.fField),aI (a1.fCond.fKind),aI (a1.fCond.fValue.fKind),aI (a1.fCond.fValue.fNum),.str (a1.fCond.fValue.fText),.sl 1 (a1.fOpens.map aI),.sl 1 (a1.fCloses.map aI),.sl 8 (a1.fChecks.map idA),.sl 2 (a1.fLimits.map z0r),.sl 1 (a1.fInside.map aI)]] (zgx r):=by
 unfold z4y at hF
 refine Con.walk _ Tryz.func139 rfl (z08 Tryz.func139 rfl rfl) rfl (Or.inr rfl) ?_
 repeat' first
  |refine AW.step ?_;conv=>whnf
  |refine z0m.o hF zcy (fun a h=>zdm h) (fun a hF=>?_)
  |exact RetX.oA hF
def zmr (a1c0:z0j)(a0:(List z0c))(v1_0:Int):AS:=⟨[(0,.sl 2 (a0.map z07)),(1,.fn 139 [.ref [aI (a1c0.fFrom),aI (a1c0.fTo),aI (a1c0.fVar),aI (a1c0.fType),aI (a1c0.fCond.fOp),.sl 8 (a1c0.fCond.fArgs.map idA),aI (a1c0.fCond.fVar),aI (a1c0.fCond.fField),aI (a1c0.fCond.fKind),aI (a1c0.fCond.fValue.fKind),aI (a1c0.fCond.fValue.fNum),.str (a1c0.fCond.fValue.fText),.sl 1 (a1c0.fOpens.map aI),.sl 1 (a1c0.fCloses.map aI),.sl 8 (a1c0.fChecks.map idA),.sl 2 (a1c0.fLimits.map z0r),.sl 1 (a1c0.fInside.map aI)]]),(7,aI (((a0.map z07).length:Int))),(8,aI (v1_0))],[]⟩
theorem zm6 {n a1c0 a0 k1_0_0}:z27 E0 19 (z4j n a1c0 a0 k1_0_0) (zmr a1c0 a0):=LoopA.oT fun _=>rfl
def zgt (r:Int):AV:=aI (r)
theorem zo4 {n a0 a1c0 r}(hF:z8m n a0 a1c0=some r):Con E0 true 179 [.sl 2 (a0.map z07),.fn 139 [.ref [aI (a1c0.fFrom),aI (a1c0.fTo),aI (a1c0.fVar),aI (a1c0.fType),aI (a1c0.fCond.fOp),.sl 8 (a1c0.fCond.fArgs.map idA),aI (a1c0.fCond.fVar),aI (a1c0.fCond.fField),aI (a1c0.fCond.fKind),aI (a1c0.fCond.fValue.fKind),aI (a1c0.fCond.fValue.fNum),.str (a1c0.fCond.fValue.fText),.sl 1 (a1c0.fOpens.map aI),.sl 1 (a1c0.fCloses.map aI),.sl 8 (a1c0.fChecks.map idA),.sl 2 (a1c0.fLimits.map z0r),.sl 1 (a1c0.fInside.map aI)]]] (zgt r):=by
 unfold z8m at hF
 refine Con.walk _ Tryz.func179 rfl (z08 Tryz.func179 rfl rfl) rfl (Or.inr rfl) ?_
 repeat' first
  |refine AW.step ?_;conv=>whnf
  |refine z0v.o hF (fun hF=>?_) (fun hF=>?_)
  |refine IdxX.o z07 hF (fun x hF=>?_)
  |refine z0m.o hF zgx (fun a h=>zo8 h) (fun a hF=>?_)
  |exact ⟨_,hF,LeX.a []⟩
  |refine zm6 hF (LeX.a []) (fun m v hF=>?_);unfold z4j at hF
  |exact RetX.oA hF
def zk2 (a0:z0c)(m0:z0j):List (Nat×Ent):=[(100000,.box 51 [aI (m0.fFrom),aI (m0.fTo),aI (m0.fVar),aI (m0.fType),aI (m0.fCond.fOp),.sl 8 (m0.fCond.fArgs.map idA),aI (m0.fCond.fVar),aI (m0.fCond.fField),aI (m0.fCond.fKind),aI (m0.fCond.fValue.fKind),aI (m0.fCond.fValue.fNum),.str (m0.fCond.fValue.fText),.sl 1 (m0.fOpens.map aI),.sl 1 (m0.fCloses.map aI),.sl 8 (m0.fChecks.map idA),.sl 2 (m0.fLimits.map z0r),.sl 1 (m0.fInside.map aI)])]
def z8h (r:Bool×z0j):List (Nat×Ent):=[(100000,.box 51 [aI (r.2.fFrom),aI (r.2.fTo),aI (r.2.fVar),aI (r.2.fType),aI (r.2.fCond.fOp),.sl 8 (r.2.fCond.fArgs.map idA),aI (r.2.fCond.fVar),aI (r.2.fCond.fField),aI (r.2.fCond.fKind),aI (r.2.fCond.fValue.fKind),aI (r.2.fCond.fValue.fNum),.str (r.2.fCond.fValue.fText),.sl 1 (r.2.fOpens.map aI),.sl 1 (r.2.fCloses.map aI),.sl 8 (r.2.fChecks.map idA),.sl 2 (r.2.fLimits.map z0r),.sl 1 (r.2.fInside.map aI)])]
def zaf (r:Bool×z0j):AV:=.bool (r.1)
def zjv (r:Bool×z0j):AS:=⟨[(3,.bool (r.1)),(1,.ptr 100000 0)],z8h r⟩
theorem zid {n a0 m0 r}(hF:z3m n a0 m0=some r):ConG E0.P none (CalF E0.P 139 0) [.agg [aI (a0.fScope),aI (a0.fTime)],.ptr 100000 0] [] (zk2 a0 m0) (zaf r) (z8h r):=by
 unfold z3m at hF
 refine ConG.walk (E:=(E0p 2)) (caps:=[]) _ Tryz.func139 rfl rfl rfl rfl rfl ?_
 repeat' first
  |refine AW.step ?_;conv=>whnf
  |refine z0m.o hF zcy (fun a h=>Con.env rfl rfl (zdm h)) (fun a hF=>?_)
  |refine GX.o (res:=zaf) (meF:=z8h) hF ?_;exact GX.mk (zjv _) (LeX.a []) rfl _ rfl (by repeat' first|exact Sub.nil _|exact Sub.refl _|refine Sub.agg ?_|refine Sub.tup ?_|refine Sub.fn ?_|exact SubL.nil|refine SubL.cons ?_ ?_|refine Sub.sl _ ?_|exact SubE.nil|refine SubE.cons ?_ ?_) [] trivial rfl
def zwa (v1_0:Int×Int×Int×Int×Int×Int×Int×(List AV)×Int×Int×Int×Int×Int×ByteArray×(List Int)×(List Int)×(List AV)×(List z0z)×(List Int)×(List z0c)):AS:=⟨[(0,.row 200001),(1,.fn 139 [.ptr 100000 0]),(5,aI (v1_0.1)),(6,aI (v1_0.2.1))],[(100000,.box 51 [aI (v1_0.2.2.1),aI (v1_0.2.2.2.1),aI (v1_0.2.2.2.2.1),aI (v1_0.2.2.2.2.2.1),aI (v1_0.2.2.2.2.2.2.1),.sl 8 (v1_0.2.2.2.2.2.2.2.1.map idA),aI (v1_0.2.2.2.2.2.2.2.2.1),aI (v1_0.2.2.2.2.2.2.2.2.2.1),aI (v1_0.2.2.2.2.2.2.2.2.2.2.1),aI (v1_0.2.2.2.2.2.2.2.2.2.2.2.1),aI (v1_0.2.2.2.2.2.2.2.2.2.2.2.2.1),.str (v1_0.2.2.2.2.2.2.2.2.2.2.2.2.2.1),.sl 1 (v1_0.2.2.2.2.2.2.2.2.2.2.2.2.2.2.1.map aI),.sl 1 (v1_0.2.2.2.2.2.2.2.2.2.2.2.2.2.2.2.1.map aI),.sl 8 (v1_0.2.2.2.2.2.2.2.2.2.2.2.2.2.2.2.2.1.map idA),.sl 2 (v1_0.2.2.2.2.2.2.2.2.2.2.2.2.2.2.2.2.2.1.map z0r),.sl 1 (v1_0.2.2.2.2.2.2.2.2.2.2.2.2.2.2.2.2.2.2.1.map aI)]),(200001,.row 120 2 (v1_0.2.2.2.2.2.2.2.2.2.2.2.2.2.2.2.2.2.2.2.map z07))]⟩
theorem zv0 {n k1_0_0}:z27 (E0p 2) 42 (z5v n k1_0_0) zwa:=LoopA.oT fun _=>rfl
def y0x (m0:z0j)(m1:(List z0c)):List (Nat×Ent):=[(100000,.box 51 [aI (m0.fFrom),aI (m0.fTo),aI (m0.fVar),aI (m0.fType),aI (m0.fCond.fOp),.sl 8 (m0.fCond.fArgs.map idA),aI (m0.fCond.fVar),aI (m0.fCond.fField),aI (m0.fCond.fKind),aI (m0.fCond.fValue.fKind),aI (m0.fCond.fValue.fNum),.str (m0.fCond.fValue.fText),.sl 1 (m0.fOpens.map aI),.sl 1 (m0.fCloses.map aI),.sl 8 (m0.fChecks.map idA),.sl 2 (m0.fLimits.map z0r),.sl 1 (m0.fInside.map aI)]),(200001,.row 120 2 (m1.map z07))]
def zax (r:(List z0c)×z0j):List (Nat×Ent):=[(260000,.row 120 2 (r.1.map z07)),(100000,.box 51 [aI (r.2.fFrom),aI (r.2.fTo),aI (r.2.fVar),aI (r.2.fType),aI (r.2.fCond.fOp),.sl 8 (r.2.fCond.fArgs.map idA),aI (r.2.fCond.fVar),aI (r.2.fCond.fField),aI (r.2.fCond.fKind),aI (r.2.fCond.fValue.fKind),aI (r.2.fCond.fValue.fNum),.str (r.2.fCond.fValue.fText),.sl 1 (r.2.fOpens.map aI),.sl 1 (r.2.fCloses.map aI),.sl 8 (r.2.fChecks.map idA),.sl 2 (r.2.fLimits.map z0r),.sl 1 (r.2.fInside.map aI)])]
def zdr (r:(List z0c)×z0j):AV:=.row 260000
def zkw (r:(List z0c)×z0j):AS:=⟨[(4,.row 260000),(1,.fn 139 [.ptr 100000 0])],zax r⟩
theorem zx8 {n m0 m1 r}(hF:zb6 n m0 m1=some r):ConG E0.P none (CalF E0.P 138 0) [.row 200001,.fn 139 [.ptr 100000 0]] [] (y0x m0 m1) (zdr r) (zax r):=by
 unfold zb6 at hF
 refine ConG.walk (E:=(E0p 2)) (caps:=[]) _ Tryz.func138 rfl rfl rfl rfl rfl ?_
 repeat' first
  |refine AW.step ?_;conv=>whnf
  |refine z0v.o hF (fun hF=>?_) (fun hF=>?_)
  |refine zbm.o hF zgt (fun a h=>Con.env rfl rfl (zo4 h)) (fun _=>Or.inr rfl) (fun a hF=>?_)
  |refine GX.o (res:=zdr) (meF:=zax) hF ?_;exact GX.mk (zkw _) (LeX.a [(260000,200001)]) rfl _ rfl (by repeat' first|exact Sub.nil _|exact Sub.refl _|refine Sub.agg ?_|refine Sub.tup ?_|refine Sub.fn ?_|exact SubL.nil|refine SubL.cons ?_ ?_|refine Sub.sl _ ?_|exact SubE.nil|refine SubE.cons ?_ ?_) [100000] ⟨Or.inr ⟨1,0,_,_,_,_,_,Nat.le_of_ble_eq_true rfl,rfl,rfl,rfl,rfl,rfl⟩,trivial⟩ rfl
  |refine OpX.sub hF rfl rfl rfl rfl rfl rfl rfl rfl rfl rfl (fun m hF=>?_)
  |refine OpX.clr z07 hF rfl rfl rfl rfl rfl rfl rfl rfl rfl rfl rfl (by first|exact SubL.refl _|(repeat' first|exact SubL.nil|refine SubL.cons ?_ ?_|exact Sub.refl _|exact Sub.nil _|refine Sub.agg ?_)) (fun l hF=>?_)
  |refine SlsX.o z07 hF (fun l hF=>?_)
  |refine GX.o (res:=zdr) (meF:=zax) hF ?_;exact GX.mk (zkw _) (LeX.a [(260000,41)]) rfl _ rfl (by repeat' first|exact Sub.nil _|exact Sub.refl _|refine Sub.agg ?_|refine Sub.tup ?_|refine Sub.fn ?_|exact SubL.nil|refine SubL.cons ?_ ?_|refine Sub.sl _ ?_|exact SubE.nil|refine SubE.cons ?_ ?_) [100000] ⟨Or.inr ⟨1,0,_,_,_,_,_,Nat.le_of_ble_eq_true rfl,rfl,rfl,rfl,rfl,rfl⟩,trivial⟩ rfl
  |refine NatX.o hF (fun m hF=>?_)
  |refine EltX.o z07 hF (fun x hF=>?_)
  |refine zbm.oM (zcu 28 hF) [(100000,100000)] [(100000,100000)] _ _ z8h zaf [] (fun a h=>ConG.up (zid h)) (z08 Tryz.func139 rfl rfl) rfl rfl rfl ⟨⟨rfl,rfl⟩,trivial⟩ (fun a=>⟨rfl,rfl,rfl,rfl,rfl,rfl,rfl,rfl⟩) (fun a hF=>?_)
  |refine SetX.o z07 hF (fun x=>rfl) (fun x=>(by first|exact SubL.refl _|(repeat' first|exact SubL.nil|refine SubL.cons ?_ ?_|exact Sub.refl _|exact Sub.nil _|refine Sub.agg ?_))) (fun l hF=>?_)
  |exact ⟨_,hF,LeX.a []⟩
  |refine zv0 hF (LeX.a []) (fun m v hF=>?_);unfold z5v at hF
  |refine EqX.mk (by first|rfl|kernel_rfl) ?_
set_option maxHeartbeats 400000 in
theorem clone140_any (l:List (Cel 4))(S:Nat->Prop)(v:Value)(w:World)(h:Sl w S 4 encC v l)(hl:l.length<=1000000000) :
  Calls Tryz.prog 140 #[v] w (RetOwn 128 4 encC l w):=by
 have eok:EOk Tryz.prog 74 128 4 32 (encC (n:=4)):=eokC (sz:=4) tyOk74 rfl tyOk128 (by omega) rfl
 obtain ⟨A,c,rfl,hc,_⟩:=h.form
 have hq:=fun (W:World)=>Lib.run_eql_slice_nil W 74 128 A l.length c 0 0 Tryz.underlying74
 have H:=hide h
 cases A with
 |none =>
  have h0:l=[]:=h.none_nil
  subst h0
  clear h H hl hc
  simp only [List.length_nil,Option.isNone_none] at hq ⊢
  go_enter Tryz.func140,Tryz.ntmps140
  go_wp2
  go_ret
  exact ⟨none,0,rfl,Own.nil_,by go_grown⟩
 |some ad =>
  clear h
  go_enter Tryz.func140,Tryz.ntmps140
  go_wp2_with (at_builtin;refine z9y rfl _ _ rfl eok rfl Own.made_ rfl (H.out.alloc _) (by simp;omega) (by omega) (by simp) ?_;intro A' c' w1 ho hg _)
  go_ret
  exact ⟨A',c',rfl,ho,(Own.made_ (sz:=4) (enc:=encC (n:=4))).grown ((Below.refl _ _).alloc (Nat.le_refl _) _) (Nat.le_refl _) (by simp) hg⟩
theorem conT_clone140 {n a r}(hF:zd7 n a=some r):ConT E0 140 [.sl 4 (List.map z06 a)] 128 4 (List.map z06 r) (.row 0):=zqg rfl (z08 Tryz.func140 rfl rfl) clone140_any hF
def zrd (a4:z01)(a2:z0j)(a1:z00)(x5:(List z0c))(x12:(List (List z01)))(v1_1:Int):AS:=⟨[(6,.ptr 6 0),(7,.ptr 7 0),(9,.ptr 9 0),(10,.ptr 10 0),(12,.row 52),(13,.ptr 13 0),(81,.sl 8 (a2.fChecks.map idA)),(82,aI (((a2.fChecks.map idA).length:Int))),(83,aI (v1_1))],[(6,.box 77 [aI (a1.fState),.sl 4 (a1.fBindings.map z06),.sl 2 (a1.fStarts.map z07)]),(7,.box 51 [aI (a2.fFrom),aI (a2.fTo),aI (a2.fVar),aI (a2.fType),aI (a2.fCond.fOp),.sl 8 (a2.fCond.fArgs.map idA),aI (a2.fCond.fVar),aI (a2.fCond.fField),aI (a2.fCond.fKind),aI (a2.fCond.fValue.fKind),aI (a2.fCond.fValue.fNum),.str (a2.fCond.fValue.fText),.sl 1 (a2.fOpens.map aI),.sl 1 (a2.fCloses.map aI),.sl 8 (a2.fChecks.map idA),.sl 2 (a2.fLimits.map z0r),.sl 1 (a2.fInside.map aI)]),(9,.box 66 [aI (a4.fSource),aI (a4.fSeq),aI (a4.fType),aI (a4.fTime),.sl 3 (a4.fValues.map z0a)]),(10,.box 77 [aI (0),.nils,.nils]),(13,.box 167 [.row 63]),(52,.row 120 2 (x5.map z07)),(63,.row 26 1 (List.map (fun q=>AV.sl 5 (List.map z04 q)) (x12)))]⟩
theorem zpu {n a4 a2 a1 x5 x12 k1_1_0}:z27 E0 111 (z6f n a4 a2 a1 x5 x12 k1_1_0) (zrd a4 a2 a1 x5 x12):=LoopA.oT fun _=>rfl
def zre (a4:z01)(a3:z0h)(a2:z0j)(a1:z00)(w1_0:Bool):AS:=⟨[(6,.ptr 6 0),(7,.ptr 7 0),(8,.ptr 8 0),(9,.ptr 9 0),(10,.ptr 10 0),(44,.bool (w1_0))],[(6,.box 77 [aI (a1.fState),.sl 4 (a1.fBindings.map z06),.sl 2 (a1.fStarts.map z07)]),(7,.box 51 [aI (a2.fFrom),aI (a2.fTo),aI (a2.fVar),aI (a2.fType),aI (a2.fCond.fOp),.sl 8 (a2.fCond.fArgs.map idA),aI (a2.fCond.fVar),aI (a2.fCond.fField),aI (a2.fCond.fKind),aI (a2.fCond.fValue.fKind),aI (a2.fCond.fValue.fNum),.str (a2.fCond.fValue.fText),.sl 1 (a2.fOpens.map aI),.sl 1 (a2.fCloses.map aI),.sl 8 (a2.fChecks.map idA),.sl 2 (a2.fLimits.map z0r),.sl 1 (a2.fInside.map aI)]),(8,.box 167 [.sl 1 (List.map (fun q=>AV.sl 5 (List.map z04 q)) (a3.fVars))]),(9,.box 66 [aI (a4.fSource),aI (a4.fSeq),aI (a4.fType),aI (a4.fTime),.sl 3 (a4.fValues.map z0a)]),(10,.box 77 [aI (0),.nils,.nils])]⟩
theorem zpv {n a4 a3 a2 a1}:z3v E0 111 (z1p n a4 a3 a2 a1) (zre a4 a3 a2 a1):=AW.jT
def ziv (r:z00×Bool):AV:=.tup [.agg [aI (r.1.fState),.sl 4 (r.1.fBindings.map z06),.sl 2 (r.1.fStarts.map z07)],.bool (r.2)]
theorem zt1 {n a0 a1 a2 a3 a4 r}(hF:z8c n a0 a1 a2 a3 a4=some r):Con E0 false 109 [.ref [aI (a0.fa.fVars),aI (a0.fa.fScopes),.sl 1 (a0.fa.fStates.map z0d),.sl 17 (a0.fa.fEdges.map z0e),.mapv (List.map (encM z28 z04) (a0.fheld))],.agg [aI (a1.fState),.sl 4 (a1.fBindings.map z06),.sl 2 (a1.fStarts.map z07)],.agg [aI (a2.fFrom),aI (a2.fTo),aI (a2.fVar),aI (a2.fType),aI (a2.fCond.fOp),.sl 8 (a2.fCond.fArgs.map idA),aI (a2.fCond.fVar),aI (a2.fCond.fField),aI (a2.fCond.fKind),aI (a2.fCond.fValue.fKind),aI (a2.fCond.fValue.fNum),.str (a2.fCond.fValue.fText),.sl 1 (a2.fOpens.map aI),.sl 1 (a2.fCloses.map aI),.sl 8 (a2.fChecks.map idA),.sl 2 (a2.fLimits.map z0r),.sl 1 (a2.fInside.map aI)],.agg [.sl 1 (List.map (fun q=>AV.sl 5 (List.map z04 q)) (a3.fVars))],.agg [aI (a4.fSource),aI (a4.fSeq),aI (a4.fType),aI (a4.fTime),.sl 3 (a4.fValues.map z0a)]] (ziv r):=by
 unfold z8c at hF
 refine Con.walk _ Tryz.func109 rfl (z08 Tryz.func109 rfl rfl) rfl (Or.inl rfl) ?_
 repeat' first
  |refine zpv hF (fun hF=>?_) (fun v hF=>?_);rotate_left;unfold z1p at hF
  |refine AW.regO hF (fun hF=>?_)
  |refine AW.stepU [1] ?_;conv=>whnf
  |refine z0v.o hF (fun hF=>?_) (fun hF=>?_)
  |refine z0v.t ?_
  |refine z0m.oR hF (fun r=>r) z07 zxz rfl (fun a h=>conT_run_opened h) (fun a hF=>?_)
  |refine zbm.o hF R_run_intime (fun a h=>con_run_intime h) (fun _=>Or.inr rfl) (fun a hF=>?_)
  |refine z0m.oR hF (fun r=>r) (fun q=>AV.sl 5 (List.map z04 q)) (fun _=>AV.row 0) rfl (fun a h=>conT_clone136 h) (fun a hF=>?_)
  |refine IdxX.o (fun q=>AV.sl 5 (List.map z04 q)) hF (fun x hF=>?_)
  |refine z0m.oR hF (fun r=>r) z04 (fun _=>AV.row 0) rfl (fun a h=>conT_clone137 h) (fun a hF=>?_)
  |refine AppX.o z04 hF (by first|exact SubR.refl _|(repeat' first|exact SubR.nil|refine SubR.cons ?_ ?_|exact SubL.nil|refine SubL.cons ?_ ?_|exact Sub.refl _|exact Sub.nil _)) (fun l hF=>?_)
  |refine NatX.o hF (fun m hF=>?_)
  |refine OpX.str z04 hF rfl rfl rfl rfl rfl rfl rfl rfl rfl rfl rfl (fun l hF=>?_)
  |refine zbm.oM (zcu 96 hF) [(100000,7),(200001,52)] [(260000,97000000),(100000,7)] _ _ zax zdr [52] (fun a h=>ConG.up (zx8 h)) (z08 Tryz.func138 rfl rfl) rfl rfl rfl ⟨⟨rfl,rfl⟩,⟨⟨rfl,rfl⟩,trivial⟩⟩ (fun a=>⟨rfl,rfl,rfl,rfl,rfl,rfl,rfl,rfl⟩) (fun a hF=>?_)
  |refine z0m.oR hF (fun r=>r) z06 (fun _=>AV.row 0) rfl (fun a h=>conT_clone140 h) (fun a hF=>?_)
  |refine z0m.o hF y1v (fun a h=>y0k h) (fun a hF=>?_)
  |refine AppX.o z06 hF (by first|exact SubR.refl _|(repeat' first|exact SubR.nil|refine SubR.cons ?_ ?_|exact SubL.nil|refine SubL.cons ?_ ?_|exact Sub.refl _|exact Sub.nil _)) (fun l hF=>?_)
  |refine IdxX.oD hF z6u (fun x hF=>?_)
  |refine zbm.o hF zn5 (fun a h=>Con.sub (by repeat' first|exact Sub.nil _|exact Sub.refl _|refine Sub.agg ?_|refine Sub.tup ?_|refine Sub.fn ?_|exact SubL.nil|refine SubL.cons ?_ ?_|refine Sub.sl _ ?_|exact SubE.nil|refine SubE.cons ?_ ?_) (zob h)) (fun _=>Or.inr rfl) (fun a hF=>?_)
  |exact ⟨_,hF,LeX.a []⟩
  |refine zpu hF (LeX.a []) (fun m v hF=>?_);unfold z6f at hF
  |exact ⟨_,hF,LeX.a []⟩
  |refine OpX.nckR rfl rfl rfl rfl ?_
  |refine IdxX.o z0d hF (fun x hF=>?_)
  |refine zbm.o hF zfc (fun a h=>zjs h) (fun _=>Or.inr rfl) (fun a hF=>?_)
  |refine z0m.o hF zn5 (fun a h=>zob h) (fun a hF=>?_)
  |refine And.intro ⟨by kernel_rfl,by kernel_rfl⟩ ?_
  |exact RetX.oA hF
def zi0 (yl_l:Nat)(yl_T:Array Value)(m4:z01)(m3:z00)(m2:z0i)(x1:z0h)(v1_0:Int×(List z00)×(List z02)):AS:=⟨[(0,.yld yl_l yl_T [.any,.any,.any,.any,.any,.any,.any,.any,.ptr 100000 0,.ptr 100001 0]),(1,.ptr 100002 0),(2,.ptr 100003 0),(3,.ptr 100004 0),(5,.ptr 5 0),(39,.sl 17 (m2.fa.fEdges.map z0e)),(40,aI (((m2.fa.fEdges.map z0e).length:Int))),(41,aI (v1_0.1))],[(100000,.box 29 [.row 33000001]),(100001,.box 30 [.row 33000003]),(100002,.box 94 [.ref [aI (m2.fa.fVars),aI (m2.fa.fScopes),.sl 1 (m2.fa.fStates.map z0d),.sl 17 (m2.fa.fEdges.map z0e),.mapv (List.map (encM z28 z04) (m2.fheld))]]),(100003,.box 77 [aI (m3.fState),.sl 4 (m3.fBindings.map z06),.sl 2 (m3.fStarts.map z07)]),(100004,.box 66 [aI (m4.fSource),aI (m4.fSeq),aI (m4.fType),aI (m4.fTime),.sl 3 (m4.fValues.map z0a)]),(5,.box 167 [.sl 1 (List.map (fun q=>AV.sl 5 (List.map z04 q)) (x1.fVars))]),(33000001,.row 77 3 (v1_0.2.1.map z0b)),(33000003,.row 83 1 (v1_0.2.2.map z0f))]⟩
theorem zhr {n yl_l yl_R yl_T m4 m3 m2 x1 k1_0_0}:z27 (E0y yl_l yl_R 4) 67 (z1i n m4 m3 m2 x1 k1_0_0) (zi0 yl_l yl_T m4 m3 m2 x1):=LoopA.oT fun _=>rfl
def zhz (yl_l:Nat)(yl_T:Array Value)(m4:z01)(m3:z00)(m2:z0i)(x1:z0h)(v2_1:Int×(List z00)×(List z02)):AS:=⟨[(0,.yld yl_l yl_T [.any,.any,.any,.any,.any,.any,.any,.any,.ptr 100000 0,.ptr 100001 0]),(1,.ptr 100002 0),(2,.ptr 100003 0),(3,.ptr 100004 0),(5,.ptr 5 0),(39,.sl 17 (m2.fa.fEdges.map z0e)),(40,aI (((m2.fa.fEdges.map z0e).length:Int))),(41,aI (v2_1.1))],[(100000,.box 29 [.row 200000]),(100001,.box 30 [.row 200001]),(100002,.box 94 [.ref [aI (m2.fa.fVars),aI (m2.fa.fScopes),.sl 1 (m2.fa.fStates.map z0d),.sl 17 (m2.fa.fEdges.map z0e),.mapv (List.map (encM z28 z04) (m2.fheld))]]),(100003,.box 77 [aI (m3.fState),.sl 4 (m3.fBindings.map z06),.sl 2 (m3.fStarts.map z07)]),(100004,.box 66 [aI (m4.fSource),aI (m4.fSeq),aI (m4.fType),aI (m4.fTime),.sl 3 (m4.fValues.map z0a)]),(5,.box 167 [.sl 1 (List.map (fun q=>AV.sl 5 (List.map z04 q)) (x1.fVars))]),(200000,.row 77 3 (v2_1.2.1.map z0b)),(200001,.row 83 1 (v2_1.2.2.map z0f))]⟩
theorem zhq {n yl_l yl_R yl_T m4 m3 m2 x1 k2_1_0}:z27 (E0y yl_l yl_R 4) 67 (z1h n m4 m3 m2 x1 k2_1_0) (zhz yl_l yl_T m4 m3 m2 x1):=LoopA.oT fun _=>rfl
def zk3 (m0:(List z00))(m1:(List z02))(m2:z0i)(m3:z00)(m4:z01):List (Nat×Ent):=[(100000,.box 29 [.row 200000]),(200000,.row 77 3 (m0.map z0b)),(100001,.box 30 [.row 200001]),(200001,.row 83 1 (m1.map z0f)),(100002,.box 94 [.ref [aI (m2.fa.fVars),aI (m2.fa.fScopes),.sl 1 (m2.fa.fStates.map z0d),.sl 17 (m2.fa.fEdges.map z0e),.mapv (List.map (encM z28 z04) (m2.fheld))]]),(100003,.box 77 [aI (m3.fState),.sl 4 (m3.fBindings.map z06),.sl 2 (m3.fStarts.map z07)]),(100004,.box 66 [aI (m4.fSource),aI (m4.fSeq),aI (m4.fType),aI (m4.fTime),.sl 3 (m4.fValues.map z0a)])]
def z60 (r:(List z00)×(List z02)×z0i×z00×z01):List (Nat×Ent):=[(100000,.box 29 [.row 250000]),(250000,.row 77 3 (r.1.map z0b)),(100001,.box 30 [.row 250001]),(250001,.row 83 1 (r.2.1.map z0f)),(100002,.box 94 [.ref [aI (r.2.2.1.fa.fVars),aI (r.2.2.1.fa.fScopes),.sl 1 (r.2.2.1.fa.fStates.map z0d),.sl 17 (r.2.2.1.fa.fEdges.map z0e),.mapv (List.map (encM z28 z04) (r.2.2.1.fheld))]]),(100003,.box 77 [aI (r.2.2.2.1.fState),.sl 4 (r.2.2.2.1.fBindings.map z06),.sl 2 (r.2.2.2.1.fStarts.map z07)]),(100004,.box 66 [aI (r.2.2.2.2.fSource),aI (r.2.2.2.2.fSeq),aI (r.2.2.2.2.fType),aI (r.2.2.2.2.fTime),.sl 3 (r.2.2.2.2.fValues.map z0a)])]
def zag (r:(List z00)×(List z02)×z0i×z00×z01):AV:=.tup []
def ze6 (yl_l:Nat)(yl_T:Array Value)(r:(List z00)×(List z02)×z0i×z00×z01):AS:=⟨[(0,.yld yl_l yl_T [.any,.any,.any,.any,.any,.any,.any,.any,.ptr 100000 0,.ptr 100001 0]),(1,.ptr 100002 0),(2,.ptr 100003 0),(3,.ptr 100004 0)],z60 r⟩
end Go.Proofs.YtjpknpjjcddnnaaGreat
namespace Go.Proofs.YtjpknpjjcddnnaaGreat
open Go.RowKit
theorem zif {n m0 m1 m2 m3 m4 r}(hF:z61 n m0 m1 m2 m3 m4=some r)(yl_l:Nat)(yl_R:Obj)(yl_T:Array Value)(hY:∀ {n:Nat} {a0:z00} {m0:(List z00)} {m1:(List z02)} {r:(List z00)×(List z02)},z6h n a0 m0 m1=some r->ConG E0.P (some (yl_l,yl_R)) (fun vs cs w R=>cs=yl_T->CalY E0.P yl_l vs cs w R) [.agg [aI (a0.fState),.sl 4 (a0.fBindings.map z06),.sl 2 (a0.fStarts.map z07)]] [.any,.any,.any,.any,.any,.any,.any,.any,.ptr 100000 0,.ptr 100001 0] (zrp m0 m1) (.bool true) (z3y r)):ConG E0.P (some (yl_l,yl_R)) (CalF E0.P 105 0) [.yld yl_l yl_T [.any,.any,.any,.any,.any,.any,.any,.any,.ptr 100000 0,.ptr 100001 0],.ptr 100002 0,.ptr 100003 0,.ptr 100004 0] [] (zk3 m0 m1 m2 m3 m4) (zag r) (z60 r):=by
 unfold z61 at hF
 refine ConG.walk (E:=(E0y yl_l yl_R 4)) (caps:=[]) _ Tryz.func105 rfl rfl rfl rfl rfl ?_
 repeat' first
  |refine AW.step ?_;conv=>whnf
  |refine z0v.o hF (fun hF=>?_) (fun hF=>?_)
  |refine z0v.f ?_
  |refine z0m.o hF zri (fun a h=>Con.env rfl rfl (y0j h)) (fun a hF=>?_)
  |refine OpX.nckR rfl rfl rfl rfl ?_
  |refine IdxX.o z0d hF (fun x hF=>?_)
  |refine zbm.o hF zfd (fun a h=>Con.env rfl rfl (zjt h)) (fun _=>Or.inr rfl) (fun a hF=>?_)
  |refine YldX.oM (zcu 32 hF) [(100000,100000),(200000,200000),(100001,100001),(200001,200001)] [(100000,100000),(250000,33000001),(100001,100001),(250001,33000003)] _ _ _ z3y (fun _=>AV.bool true) [200000,200001] (fun a h=>hY h) rfl rfl rfl rfl rfl ⟨⟨rfl,rfl⟩,⟨⟨rfl,rfl⟩,⟨⟨rfl,rfl⟩,⟨⟨rfl,rfl⟩,trivial⟩⟩⟩⟩ (fun a=>⟨rfl,rfl,rfl,rfl,rfl,rfl,rfl,rfl⟩) (fun a hF=>?_)
  |refine GX.o (res:=zag) (meF:=z60) hF ?_;exact GX.mk (ze6 yl_l yl_T _) (LeX.a [(250000,33000001),(250001,33000003)]) rfl _ rfl (by repeat' first|exact Sub.nil _|exact Sub.refl _|refine Sub.agg ?_|refine Sub.tup ?_|refine Sub.fn ?_|exact SubL.nil|refine SubL.cons ?_ ?_|refine Sub.sl _ ?_|exact SubE.nil|refine SubE.cons ?_ ?_) [100000,100001] ⟨Or.inl ⟨0,0,8,_,_,_,_,_,_,rfl,rfl,rfl,rfl,rfl⟩,⟨Or.inl ⟨0,0,9,_,_,_,_,_,_,rfl,rfl,rfl,rfl,rfl⟩,trivial⟩⟩ rfl
  |refine IdxX.o z0e hF (fun x hF=>?_)
  |exact ⟨_,hF,LeX.a []⟩
  |refine z0m.o hF ziv (fun a h=>Con.env rfl rfl (zt1 h)) (fun a hF=>?_)
  |refine YldX.oM (zcu 63 hF) [(100000,100000),(200000,33000001),(100001,100001),(200001,33000003)] [(100000,100000),(250000,64000001),(100001,100001),(250001,64000003)] _ _ _ z3y (fun _=>AV.bool true) [33000001,33000003] (fun a h=>hY h) rfl rfl rfl rfl rfl ⟨⟨rfl,rfl⟩,⟨⟨rfl,rfl⟩,⟨⟨rfl,rfl⟩,⟨⟨rfl,rfl⟩,trivial⟩⟩⟩⟩ (fun a=>⟨rfl,rfl,rfl,rfl,rfl,rfl,rfl,rfl⟩) (fun a hF=>?_)
  |exact ⟨_,hF,LeX.a [(33000001,64000001),(33000003,64000003)]⟩
  |refine zhr hF (LeX.a []) (fun m v hF=>?_);unfold z1i at hF
  |refine GX.o (res:=zag) (meF:=z60) hF ?_;exact GX.mk (ze6 yl_l yl_T _) (LeX.a [(250000,200000),(250001,200001)]) rfl _ rfl (by repeat' first|exact Sub.nil _|exact Sub.refl _|refine Sub.agg ?_|refine Sub.tup ?_|refine Sub.fn ?_|exact SubL.nil|refine SubL.cons ?_ ?_|refine Sub.sl _ ?_|exact SubE.nil|refine SubE.cons ?_ ?_) [100000,100001] ⟨Or.inl ⟨0,0,8,_,_,_,_,_,_,rfl,rfl,rfl,rfl,rfl⟩,⟨Or.inl ⟨0,0,9,_,_,_,_,_,_,rfl,rfl,rfl,rfl,rfl⟩,trivial⟩⟩ rfl
  |refine YldX.oM (zcu 63 hF) [(100000,100000),(200000,200000),(100001,100001),(200001,200001)] [(100000,100000),(250000,64000001),(100001,100001),(250001,64000003)] _ _ _ z3y (fun _=>AV.bool true) [200000,200001] (fun a h=>hY h) rfl rfl rfl rfl rfl ⟨⟨rfl,rfl⟩,⟨⟨rfl,rfl⟩,⟨⟨rfl,rfl⟩,⟨⟨rfl,rfl⟩,trivial⟩⟩⟩⟩ (fun a=>⟨rfl,rfl,rfl,rfl,rfl,rfl,rfl,rfl⟩) (fun a hF=>?_)
  |exact ⟨_,hF,LeX.a [(200000,64000001),(200001,64000003)]⟩
  |refine zhq hF (LeX.a []) (fun m v hF=>?_);unfold z1h at hF
  |refine And.intro ⟨by kernel_rfl,by kernel_rfl⟩ ?_
def zrg (r:Bool):AV:=.bool (r)
theorem y0h {n a0 a1 r}(hF:zan n a0 a1=some r):Con E0 true 76 [.agg [.sl 4 (a0.fBindings.map z06)],.agg [.sl 4 (a1.fBindings.map z06)],.ref [.fn 43 []]] (zrg r):=by
 unfold zan at hF
 refine Con.walk _ Tryz.func76 rfl (z08 Tryz.func76 rfl rfl) rfl (Or.inr rfl) ?_
 repeat' first
  |refine AW.step ?_;conv=>whnf
  |refine z0m.o hF zld (fun a h=>zqd h) (fun a hF=>?_)
  |exact RetX.oA hF
def zjx (x46:Nat)(v2_1:Int×Int×(List z02)):AS:=⟨[(0,.row 200000),(1,.fn 76 [.ref [.fn 43 []]]),(5,aI (v2_1.1)),(6,.der (.sub 1 (x46)) 200000),(7,aI (v2_1.2.1))],[(200000,.row 83 1 (v2_1.2.2.map z0f))]⟩
theorem zjp {n x46 k2_1_0}:z27 (E0p 2) 66 (z2b n x46 k2_1_0) (zjx x46):=LoopA.oT fun _=>rfl
def zjy (m0:(List z02))(v1_0:Int):AS:=⟨[(0,.row 200000),(1,.fn 76 [.ref [.fn 43 []]]),(5,aI (v1_0))],[(200000,.row 83 1 (m0.map z0f))]⟩
theorem zjq {n m0 k1_0_0}:z27 (E0p 2) 66 (z3l n m0 k1_0_0) (zjy m0):=LoopA.oT fun _=>rfl
def zoz (m0:(List z02)):List (Nat×Ent):=[(200000,.row 83 1 (m0.map z0f))]
def z7r (r:(List z02)):List (Nat×Ent):=[(260000,.row 83 1 (r.map z0f))]
def z9j (r:(List z02)):AV:=.row 260000
def zfl (r:(List z02)):AS:=⟨[(4,.row 260000)],z7r r⟩
theorem zkn {n m0 r}(hF:z7v n m0=some r):ConG E0.P none (CalF E0.P 75 0) [.row 200000,.fn 76 [.ref [.fn 43 []]]] [] (zoz m0) (z9j r) (z7r r):=by
 unfold z7v at hF
 refine ConG.walk (E:=(E0p 2)) (caps:=[]) _ Tryz.func75 rfl rfl rfl rfl rfl ?_
 repeat' first
  |refine AW.step ?_;conv=>whnf
  |refine z0v.o hF (fun hF=>?_) (fun hF=>?_)
  |refine GX.o (res:=z9j) (meF:=z7r) hF ?_;exact GX.mk (zfl _) (LeX.a [(260000,200000)]) rfl _ rfl (by repeat' first|exact Sub.nil _|exact Sub.refl _|refine Sub.agg ?_|refine Sub.tup ?_|refine Sub.fn ?_|exact SubL.nil|refine SubL.cons ?_ ?_|refine Sub.sl _ ?_|exact SubE.nil|refine SubE.cons ?_ ?_) [] trivial rfl
  |refine NatX.o hF (fun m hF=>?_)
  |refine EltX.o z0f hF (fun x hF=>?_)
  |refine z0m.o hF zrg (fun a h=>Con.env rfl rfl (y0h h)) (fun a hF=>?_)
  |refine OpX.sub hF rfl rfl rfl rfl rfl rfl rfl rfl rfl rfl (fun m hF=>?_)
  |refine OpX.clr z0f hF rfl rfl rfl rfl rfl rfl rfl rfl rfl rfl rfl (by first|exact SubL.refl _|(repeat' first|exact SubL.nil|refine SubL.cons ?_ ?_|exact Sub.refl _|exact Sub.nil _|refine Sub.agg ?_)) (fun l hF=>?_)
  |refine SlsX.o z0f hF (fun l hF=>?_)
  |refine GX.o (res:=z9j) (meF:=z7r) hF ?_;exact GX.mk (zfl _) (LeX.a [(260000,64)]) rfl _ rfl (by repeat' first|exact Sub.nil _|exact Sub.refl _|refine Sub.agg ?_|refine Sub.tup ?_|refine Sub.fn ?_|exact SubL.nil|refine SubL.cons ?_ ?_|refine Sub.sl _ ?_|exact SubE.nil|refine SubE.cons ?_ ?_) [] trivial rfl
  |refine OpX.lns hF rfl rfl rfl rfl rfl rfl rfl (fun hF=>?_)
  |refine OpX.ixs hF rfl rfl rfl rfl rfl rfl rfl rfl rfl rfl (fun m hF=>?_)
  |refine SetX.o z0f hF (fun x=>rfl) (fun x=>(by first|exact SubL.refl _|(repeat' first|exact SubL.nil|refine SubL.cons ?_ ?_|exact Sub.refl _|exact Sub.nil _|refine Sub.agg ?_))) (fun l hF=>?_)
  |exact ⟨_,hF,LeX.a []⟩
  |refine zjp hF (LeX.a []) (fun m v hF=>?_);unfold z2b at hF
  |exact ⟨_,hF,LeX.a []⟩
  |refine zjq hF (LeX.a []) (fun m v hF=>?_);unfold z3l at hF
  |refine And.intro ⟨by kernel_rfl,by kernel_rfl⟩ ?_
  |refine EqX.mk (by first|rfl|kernel_rfl) ?_
def M_run_unique_s164 (m0:(List z02)):List (Nat×Ent):=[(200000,.row 83 1 (m0.map z0f))]
def zd0 (r:(List z02)):List (Nat×Ent):=[(260000,.row 83 1 (r.map z0f))]
def zf6 (r:(List z02)):AV:=.row 260000
def Z_run_unique_s164 (r:(List z02)):AS:=⟨[(4,.row 260000)],zd0 r⟩
theorem zkp {n m0 r}(hF:z9f n m0=some r):ConG E0.P none (CalF E0.P 42 0) [.row 200000,.fn 43 []] [] (M_run_unique_s164 m0) (zf6 r) (zd0 r):=by
 unfold z9f at hF
 refine ConG.walk (E:=(E0p 2)) (caps:=[]) _ Tryz.func42 rfl rfl rfl rfl rfl ?_
 repeat' first
  |refine AW.frbO hF 3 rfl rfl (fun hF=>?_)
  |refine AW.regO hF (fun hF=>?_)
  |refine AW.stepU [2] ?_;conv=>whnf
  |refine zbm.oI hF 200000 (fun r=>r) z0f (fun _=>AV.tup []) rfl (fun a h=>(ConC.env rfl (sortMa_con h))) rfl rfl rfl (fun a hF=>?_)
  |refine zbm.oM (zcu 10 hF) [(200000,200000)] [(260000,11000000)] _ _ z7r z9j [200000] (fun a h=>ConG.up (zkn h)) (z08 Tryz.func75 rfl rfl) rfl rfl rfl ⟨⟨rfl,rfl⟩,trivial⟩ (fun a=>⟨rfl,rfl,rfl,rfl,rfl,rfl,rfl,rfl⟩) (fun a hF=>?_)
  |refine GX.o (res:=zf6) (meF:=zd0) hF ?_;exact GX.mk (Z_run_unique_s164 _) (LeX.a [(260000,11000000)]) rfl _ rfl (by repeat' first|exact Sub.nil _|exact Sub.refl _|refine Sub.agg ?_|refine Sub.tup ?_|refine Sub.fn ?_|exact SubL.nil|refine SubL.cons ?_ ?_|refine Sub.sl _ ?_|exact SubE.nil|refine SubE.cons ?_ ?_) [] trivial rfl
def zrf (a2:z01)(a1:(List z00))(a0:z0i)(v1_0:Int×(List z00)×(List z02)):AS:=⟨[(0,.ref [aI (a0.fa.fVars),aI (a0.fa.fScopes),.sl 1 (a0.fa.fStates.map z0d),.sl 17 (a0.fa.fEdges.map z0e),.mapv (List.map (encM z28 z04) (a0.fheld))]),(5,.ptr 5 0),(8,.ptr 8 0),(9,.ptr 9 0),(13,.sl 3 (a1.map z0b)),(14,aI (((a1.map z0b).length:Int))),(15,aI (v1_0.1))],[(5,.box 66 [aI (a2.fSource),aI (a2.fSeq),aI (a2.fType),aI (a2.fTime),.sl 3 (a2.fValues.map z0a)]),(8,.box 29 [.row 811000001]),(9,.box 30 [.row 811000003]),(811000001,.row 77 3 (v1_0.2.1.map z0b)),(811000003,.row 83 1 (v1_0.2.2.map z0f))]⟩
theorem zpw {n a2 a1 a0 k1_0_0}:z27 E0r 42 (z6g n a2 a1 a0 k1_0_0) (zrf a2 a1 a0):=LoopA.oT fun _=>rfl
def zem (r:(List z00)×(List z02)):AV:=.tup [.sl 3 (r.1.map z0b),.sl 1 (r.2.map z0f)]
theorem zgm {n a0 a1 a2 r}(hF:z8d n a0 a1 a2=some r):Con E0 false 41 [.ref [aI (a0.fa.fVars),aI (a0.fa.fScopes),.sl 1 (a0.fa.fStates.map z0d),.sl 17 (a0.fa.fEdges.map z0e),.mapv (List.map (encM z28 z04) (a0.fheld))],.sl 3 (a1.map z0b),.agg [aI (a2.fSource),aI (a2.fSeq),aI (a2.fType),aI (a2.fTime),.sl 3 (a2.fValues.map z0a)]] (zem r):=by
 unfold z8d at hF
 refine Con.walkM (E:=E0r) _ Tryz.func41 rfl (z08 Tryz.func41 rfl rfl) rfl (Or.inl rfl) ?_ rfl rfl rfl
 repeat' first
  |refine AW.step ?_;conv=>whnf
  |refine z0v.o hF (fun hF=>?_) (fun hF=>?_)
  |refine zbm.oM (zcu 39 hF) [(200000,811000001)] [(260000,40000000)] _ _ zix zn4 [811000001] (fun a h=>ConG.up (y00 h)) (z08 Tryz.func58 rfl rfl) rfl rfl rfl ⟨⟨rfl,rfl⟩,trivial⟩ (fun a=>⟨rfl,rfl,rfl,rfl,rfl,rfl,rfl,rfl⟩) (fun a hF=>?_)
  |refine zbm.oM (zcu 41 hF) [(200000,811000003)] [(260000,42000000)] _ _ zd0 zf6 [811000003] (fun a h=>ConG.up (zkp h)) (z08 Tryz.func42 rfl rfl) rfl rfl rfl ⟨⟨rfl,rfl⟩,trivial⟩ (fun a=>⟨rfl,rfl,rfl,rfl,rfl,rfl,rfl,rfl⟩) (fun a hF=>?_)
  |refine IdxX.o z0b hF (fun x hF=>?_)
  |refine z0m.oM (zcu 22 hF) [] [(3,23000000),(4,23000001),(5,23000002)] _ _ zbx zel [] (fun a h=>ConG.up (zt2 h)) (z08 Tryz.func73 rfl rfl) rfl rfl rfl trivial (fun a=>⟨rfl,rfl,rfl,rfl,rfl,rfl,rfl,rfl⟩) (fun a hF=>?_)
  |refine AppX.o z0f hF (by first|exact SubR.refl _|(repeat' first|exact SubR.nil|refine SubR.cons ?_ ?_|exact SubL.nil|refine SubL.cons ?_ ?_|exact Sub.refl _|exact Sub.nil _)) (fun l hF=>?_)
  |refine BX.o (meF:=z3y) hF ?_;exact BX.mk (zg4 _) (LeX.a [(250000,200000),(250001,32)]) rfl rfl
  |refine AppX.o z0b hF (by first|exact SubR.refl _|(repeat' first|exact SubR.nil|refine SubR.cons ?_ ?_|exact SubL.nil|refine SubL.cons ?_ ?_|exact Sub.refl _|exact Sub.nil _)) (fun l hF=>?_)
  |refine BX.o (meF:=z3y) hF ?_;exact BX.mk (zg4 _) (LeX.a [(250000,36),(250001,200001)]) rfl rfl
  |refine RngX.oM (zcu 810 hF) [(100000,8),(100001,9),(100002,23000000),(100003,23000001),(100004,23000002),(200000,811000001),(200001,811000003)] [(100000,8),(250000,811500001),(100001,9),(250001,811500003),(100002,23000000),(100003,23000001),(100004,23000002)] _ _ _ z60 [811000001,811000003] (fun x h l D fn T hT=>zif h l _ T (fun hF=>ConG.round (E:=E0p 10) rfl rfl rfl rfl rfl rfl ?_ l D fn T hT)) (z08 Tryz.func105 rfl rfl) rfl rfl rfl rfl rfl ⟨⟨rfl,rfl⟩,⟨⟨rfl,rfl⟩,trivial⟩⟩ ⟨⟨rfl,rfl⟩,⟨⟨rfl,rfl⟩,⟨⟨rfl,rfl⟩,⟨⟨rfl,rfl⟩,⟨⟨rfl,rfl⟩,⟨⟨rfl,rfl⟩,⟨⟨rfl,rfl⟩,trivial⟩⟩⟩⟩⟩⟩⟩ (fun a=>⟨rfl,rfl,rfl,rfl,rfl,rfl,rfl,rfl⟩) (fun a hF=>?_)
  |exact ⟨_,hF,LeX.a [(811000001,811500001),(811000003,811500003)]⟩
  |refine zpw hF (LeX.trans (LeX.adoptC 8 0 811000001 77 3 29 _ rfl rfl rfl) (LeX.trans (LeX.adoptC 9 0 811000003 83 1 30 _ rfl rfl rfl) (LeX.a []))) (fun m v hF=>?_);unfold z6g at hF
  |refine And.intro ⟨by kernel_rfl,by kernel_rfl⟩ ?_
  |exact RetX.oA hF
def S_run_Run_j3 (a1:(List z01))(x2:z0i)(v2_1:(List z00)×Int×(List z02))(cv2_1:(List z00)×Int×(List z02)->Option ((List z00)×(List z02)×Int))(x49:(List z00)×(List z02))(w3_2:Bool):AS:=⟨[(7,.ref [aI (x2.fa.fVars),aI (x2.fa.fScopes),.sl 1 (x2.fa.fStates.map z0d),.sl 17 (x2.fa.fEdges.map z0e),.mapv (List.map (encM z28 z04) (x2.fheld))]),(10,.row 7058),(13,.sl 3 (x49.1.map z0b)),(14,.sl 1 (x49.2.map z0f)),(26,.sl 5 (a1.map z04)),(27,aI (((a1.map z04).length:Int))),(28,aI (v2_1.2.1)),(54,.bool (w3_2))],[(7058,.row 83 1 (v2_1.2.2.map z0f))]⟩
theorem run_Run_j3_o {n a1 x2 v2_1 cv2_1 x49}:z3v E0 63 (zdb n a1 x2 v2_1 cv2_1 x49) (S_run_Run_j3 a1 x2 v2_1 cv2_1 x49):=AW.jT
def S_run_Run_l2 (a1:(List z01))(x2:z0i)(v2_1:(List z00)×Int×(List z02)):AS:=⟨[(7,.ref [aI (x2.fa.fVars),aI (x2.fa.fScopes),.sl 1 (x2.fa.fStates.map z0d),.sl 17 (x2.fa.fEdges.map z0e),.mapv (List.map (encM z28 z04) (x2.fheld))]),(9,.sl 3 (v2_1.1.map z0b)),(10,.row 7058),(26,.sl 5 (a1.map z04)),(27,aI (((a1.map z04).length:Int))),(28,aI (v2_1.2.1))],[(7058,.row 83 1 (v2_1.2.2.map z0f))]⟩
theorem run_Run_l2_o {n a1 x2 k2_1_0}:z27 E0 63 (zc7 n a1 x2 k2_1_0) (S_run_Run_l2 a1 x2):=LoopA.oT fun _=>rfl
def y1x (r:(List z00)×(List z02)×Int):AV:=.tup [.sl 3 (r.1.map z0b),.sl 1 (r.2.1.map z0f),aI (r.2.2)]
theorem y0m {n a0 a1 r}(hF:zj2 n a0 a1=some r):Con E0 false 9 [.agg [aI (a0.fVars),aI (a0.fScopes),.sl 1 (a0.fStates.map z0d),.sl 17 (a0.fEdges.map z0e)],.sl 5 (a1.map z04)] (y1x r):=by
 unfold zj2 at hF
 refine Con.walk _ Tryz.func9 rfl (z08 Tryz.func9 rfl rfl) rfl (Or.inl rfl) ?_
 repeat' first
  |refine run_Run_j3_o hF (fun hF=>?_) (fun v hF=>?_);rotate_left;unfold zdb at hF
  |refine AW.regO hF (fun hF=>?_)
  |refine AW.stepU [10] ?_;conv=>whnf
  |refine z0v.o hF (fun hF=>?_) (fun hF=>?_)
  |refine z0v.t ?_
  |refine z0m.oP hF zck (fun u=>.tup [.nilp,aI (u.2)]) (fun u y=>.tup [.ref [aI (y.fa.fVars),aI (y.fa.fScopes),.sl 1 (y.fa.fStates.map z0d),.sl 17 (y.fa.fEdges.map z0e),.mapv (List.map (encM z28 z04) (y.fheld))],aI (u.2)]) (fun u h=>by simp only [zck,h,zdh]) (fun u y h=>by simp only [zck,h,zdh]) (fun a h=>zt3 h) (fun a hF=>?_) (fun a y hF=>?_)
  |refine z0m.o hF R_run_Begin (fun a h=>con_run_Begin h) (fun a hF=>?_)
  |(cases hF;done)
  |refine zbm.oM (zcu 62 hF) [(200000,7058)] [(260000,63000000)] _ _ zd0 zf6 [7058] (fun a h=>ConG.up (zkp h)) (z08 Tryz.func42 rfl rfl) rfl rfl rfl ⟨⟨rfl,rfl⟩,trivial⟩ (fun a=>⟨rfl,rfl,rfl,rfl,rfl,rfl,rfl,rfl⟩) (fun a hF=>?_)
  |refine IdxX.o z04 hF (fun x hF=>?_)
  |refine z0m.o hF zem (fun a h=>zgm h) (fun a hF=>?_)
  |refine AppX.o z0f hF (by first|exact SubR.refl _|(repeat' first|exact SubR.nil|refine SubR.cons ?_ ?_|exact SubL.nil|refine SubL.cons ?_ ?_|exact Sub.refl _|exact Sub.nil _)) (fun l hF=>?_)
  |exact ⟨_,hF,LeX.a [(7058,58)]⟩
  |exact ⟨_,hF,LeX.a []⟩
  |refine run_Run_l2_o hF (LeX.trans (LeX.adopt 10 7058 83 1 rfl rfl) (LeX.a [])) (fun m v hF=>?_);unfold zc7 at hF
  |exact RetX.oA hF
def zk1:List (Nat×Ent):=[]
def z5z (r:z05):List (Nat×Ent):=[(261002,.row 56 1 (r.fStates.map z0d)),(261003,.row 51 17 (r.fEdges.map z0e)),(0,.box 25 [aI (r.fVars),aI (r.fScopes),.row 261002,.row 261003])]
def z8g (r:z05):AV:=.agg [aI (r.fVars),aI (r.fScopes),.row 261002,.row 261003]
def zju (r:z05):AS:=⟨[(0,.ptr 0 0)],z5z r⟩
theorem zda {n r}(hF:z8i n=some r):ConG E0.P none (CalF E0.P 37 0) [] [] (zk1) (z8g r) (z5z r):=by
 unfold z8i at hF
 refine ConG.walk (E:=(E0q 0)) (caps:=[]) _ Tryz.func37 rfl rfl rfl rfl rfl ?_
 repeat' first
  |refine AW.step ?_;conv=>whnf
  |refine z0m.o hF za2 (fun a h=>Con.env rfl rfl (zbl h)) (fun a hF=>?_)
  |refine MakX.o z0d hF (by first|exact SubL.refl _|(repeat' first|exact SubL.nil|refine SubL.cons ?_ ?_|exact Sub.refl _|exact Sub.nil _|refine Sub.agg ?_)) (fun l hF=>?_)
  |refine OpX.bldR z0e hF rfl rfl rfl rfl rfl rfl rfl rfl rfl rfl rfl rfl rfl rfl rfl rfl (by first|exact SubR.refl _|(repeat' first|exact SubR.nil|refine SubR.cons ?_ ?_|exact SubL.nil|refine SubL.cons ?_ ?_|exact Sub.refl _|exact Sub.nil _)) rfl (fun l hF=>?_)
  |refine GX.o (res:=z8g) (meF:=z5z) hF ?_;exact GX.mk (zju _) (LeX.a [(261002,4),(261003,9)]) rfl _ rfl (by repeat' first|exact Sub.nil _|exact Sub.refl _|refine Sub.agg ?_|refine Sub.tup ?_|refine Sub.fn ?_|exact SubL.nil|refine SubL.cons ?_ ?_|refine Sub.sl _ ?_|exact SubE.nil|refine SubE.cons ?_ ?_) [] trivial rfl
  |refine And.intro ⟨by kernel_rfl,by kernel_rfl⟩ ?_
  |refine EqX.mk (by first|rfl|kernel_rfl) ?_
def y1y (r:(List z02)×Int):AV:=.tup [.sl 1 (r.1.map z0f),aI (r.2)]
theorem con_run_Matches {n a0 a1 r}(hF:zk4 n a0 a1=some r):Con E0 false 11 [.agg [aI (a0.fVars),aI (a0.fScopes),.sl 1 (a0.fStates.map z0d),.sl 17 (a0.fEdges.map z0e)],.sl 5 (a1.map z04)] (y1y r):=by
 unfold zk4 at hF
 refine Con.walk _ Tryz.func11 rfl (z08 Tryz.func11 rfl rfl) rfl (Or.inl rfl) ?_
 repeat' first
  |refine AW.step ?_;conv=>whnf
  |refine z0m.o hF y1x (fun a h=>y0m h) (fun a hF=>?_)
  |exact RetX.oA hF
def zaw (r:z13):AV:=.agg [aI (r.fTime),aI (r.fSource),aI (r.fSeq)]
theorem zbp {n a0 r}(hF:z4w n a0=some r):Con E0 true 50 [.agg [aI (a0.fSource),aI (a0.fSeq),aI (a0.fType),aI (a0.fTime),.sl 3 (a0.fValues.map z0a)]] (zaw r):=by
 unfold z4w at hF
 refine Con.walk _ Tryz.func50 rfl (z08 Tryz.func50 rfl rfl) rfl (Or.inr rfl) ?_
 repeat' first
  |refine AW.step ?_;conv=>whnf
  |exact RetX.oA hF
def zjk (r:z02):AV:=.agg [.sl 4 (r.fBindings.map z06)]
theorem zvj {n a0 a1 r}(hF:z7b n a0 a1=some r):Con E0 false 38 [aI (a0),aI (a1)] (zjk r):=by
 unfold z7b at hF
 refine Con.walk _ Tryz.func38 rfl (z08 Tryz.func38 rfl rfl) rfl (Or.inl rfl) ?_
 repeat' first
  |refine AW.step ?_;conv=>whnf
  |refine z0m.o hF zek (fun a h=>zgl h) (fun a hF=>?_)
  |refine z0m.o hF zaw (fun a h=>zbp h) (fun a hF=>?_)
  |exact RetX.oA hF
def ztl (a1:(List z02))(a0:(List z02))(v1_0:Int):AS:=⟨[(0,.sl 1 (a0.map z0f)),(1,.sl 1 (a1.map z0f)),(5,aI (v1_0))],[]⟩
theorem zs1 {n a1 a0 k1_0_0}:z27 E0 27 (z6z n a1 a0 k1_0_0) (ztl a1 a0):=LoopA.oT fun _=>rfl
def zff (r:Bool):AV:=.bool (r)
theorem zh5 {n a0 a1 r}(hF:z7a n a0 a1=some r):Con E0 true 13 [.sl 1 (a0.map z0f),.sl 1 (a1.map z0f)] (zff r):=by
 unfold z7a at hF
 refine Con.walk _ Tryz.func13 rfl (z08 Tryz.func13 rfl rfl) rfl (Or.inr rfl) ?_
 repeat' first
  |refine AW.step ?_;conv=>whnf
  |refine z0v.o hF (fun hF=>?_) (fun hF=>?_)
  |refine IdxX.o z0f hF (fun x hF=>?_)
  |refine z0m.o hF zae (fun a h=>zcj h) (fun a hF=>?_)
  |exact ⟨_,hF,LeX.a []⟩
  |refine zs1 hF (LeX.a []) (fun m v hF=>?_);unfold z6z at hF
  |refine And.intro ⟨by kernel_rfl,by kernel_rfl⟩ ?_
  |exact RetX.oA hF
def zrb (w2_1:Bool):AS:=⟨[(0,.bool (w2_1))],[]⟩
theorem zps {n}:z3v E0 108 (z6e n) zrb:=AW.jT
def zrc (x5:(List z00)×(List z02)×Int)(x23:(List z02)×Int)(w1_0:Bool):AS:=⟨[(3,.sl 1 (x5.2.1.map z0f)),(9,.sl 1 (x23.1.map z0f)),(94,.bool (w1_0))],[]⟩
end Go.Proofs.YtjpknpjjcddnnaaGreat
