/- What some functions compute, over plain values. -/
import Derived.Test.YtidhlpjgifoneaaGreatK23
set_option linter.unusedVariables false
set_option linter.unusedSimpArgs false
set_option maxRecDepth 100000
set_option maxHeartbeats 8000000
namespace Go.Proofs.YtidhlpjgifoneaaGreat
open Go.RowKit List
noncomputable section
abbrev zs4 {n a1 a0 x1 b}:=li (zap n a1 a0 x1 b) (fun c=>⟨[(0,.ref [aI a0.fa.fVars,aI a0.fa.fScopes,.sl 1 (a0.fa.fStates.map z0q),.sl 17 (a0.fa.fEdges.map z0w),.mapv (List.map (encM z1b z02) (a0.fheld))]),(4,.ptr 4 0),(5,.ptr 5 0),(15,.sl 4 (a1.map z0b)),(16,aI (((a1.map z0b).length:Int))),(17,aI c.1)],[(4,.box 220 [.nils]),(5,.box 220 [.cont (x1) 13]),(13,.nest 26 (List.map (enR z02 71 5) (c.2)))]⟩) fun _ _=>zap.eq_2 ..
abbrev zjh {n a1 a0f2 a0f1 a0f0}:=jf (z3b n a1 a0f2 a0f1 a0f0) (fun b=>⟨[(1,aI a1),(2,.ptr 2 0),(14,.bool (b))],[(2,.box 293 [.sl 1 (List.map (fun q=>AV.sl 5 (List.map z02 q)) (a0f0.fVars)),aI a0f1,aI a0f2.fSource,aI a0f2.fSeq,aI a0f2.fType,aI a0f2.fTime,.sl 3 (a0f2.fValues.map z08),.mapv [(aI 5,.fn 254 [.ref [.fn 253 []]]),(aI 6,.fn 255 [.ref [.fn 253 []]]),(aI 7,.fn 256 []),(aI 8,.fn 257 []),(aI 10,.fn 258 []),(aI 11,.fn 259 []),(aI 12,.fn 260 [])]])]⟩) fun _=>z3b.eq_1 ..
abbrev zkm {n a1 x1 b}:=li (z5q n a1 x1 b) (fun c=>⟨[(3,.ptr 3 0),(4,.ptr 4 0),(6,.row 7034),(14,.sl 5 (x1.map z02)),(15,aI (((x1.map z02).length:Int))),(16,aI c.1)],[(3,.box 111 (z8z a1)),(4,.box 109 [aI 0,aI 0,.str (ByteArray.empty)]),(7034,.row 109 3 (c.2.map z08))]⟩) fun _ _=>z5q.eq_2 ..
abbrev zll {n x9}:=jt (z4c n x9) (fun b=>⟨[(4,.ptr 4 0),(8,.ptr 8 0),(9,aI b)],[(4,.box 109 [aI 0,aI 0,.str (ByteArray.empty)]),(8,.box 109 (z28 x9.1))]⟩) fun _=>z4c.eq_1 ..
abbrev zlm {n a1}:=jt (z4d n a1) (fun b=>⟨[(3,.ptr 3 0),(4,.ptr 4 0),(7,.ptr 7 0)],[(3,.box 111 (z8z a1)),(4,.box 109 [aI 0,aI 0,.str (ByteArray.empty)]),(7,.box 71 [aI b.1,aI b.2.1,aI b.2.2.1,aI b.2.2.2.1,.sl 3 (b.2.2.2.2.map z08)])]⟩) fun _=>z4d.eq_1 ..
abbrev zud {n a1 a0 b c d}:=jt (z8y n a1 a0 b c d) (fun e=>⟨[(0,aI a0),(1,.sl 1 (a1.map aI)),(6,aI d),(7,.bool (true)),(8,.sl 1 (a1.map aI)),(9,aI (((a1.map aI).length:Int))),(10,aI b),(14,aI a0),(22,.bool (e))],[]⟩) fun _=>z8y.eq_1 ..
abbrev zue {n a1 a0 b c d}:=jt (z7e n a1 a0 b c d) (fun e=>⟨[(0,aI a0),(1,.sl 1 (a1.map aI)),(6,aI d),(7,.bool (true)),(8,.sl 1 (a1.map aI)),(9,aI (((a1.map aI).length:Int))),(10,aI b),(14,aI a0),(15,.bool (e))],[]⟩) fun _=>z7e.eq_1 ..
abbrev zuc {n a1 a0 b}:=li (z59 n a1 a0 b) (fun c=>⟨[(0,aI a0),(1,.sl 1 (a1.map aI)),(8,.sl 1 (a1.map aI)),(9,aI (((a1.map aI).length:Int))),(10,aI c)],[]⟩) fun _ _=>z59.eq_2 ..
abbrev zpy {n}:=jf (z79 n) (fun b=>⟨[(4,.ptr 4 0)],[(4,.box 109 [aI b.1,aI b.2.1,.str (b.2.2)])]⟩) fun _=>z79.eq_1 ..
attribute [instance] zs4 zjh zkm zll zlm zud zue zuc zpy
instance y8b {n a0 a1}:CI E0 (z69 n a0 a1) true 83 [.ref [aI a0.fa.fVars,aI a0.fa.fScopes,.sl 1 (a0.fa.fStates.map z0q),.sl 17 (a0.fa.fEdges.map z0w),.mapv (List.map (encM z1b z02) (a0.fheld))],z01 a1] aI:=⟨fun {r} hF=>by
 unfold z69 at hF
 refine cw Tryz.func83 ?_
 repeat' first
  |refine AW.jI hF (fun v hF=>?_) fun hF=>?_
  |refine AW.regO hF fun hF=>?_
  |refine AW.stepU [1,9,11,19,21] ?_;conv=>whnf
  |refine z12.o hF (fun hF=>?_) fun hF=>?_
  |refine z12.t ?_
  |refine IdxX.A hF fun x hF=>?_
  |exact ⟨_,hF,LeX.a []⟩
  |refine OpX.nckR rfl rfl rfl rfl ?_
  |refine z7z.I hF (LeX.a []) fun m v hF=>?_
  |refine OpX.lkv z1b z02 hF yir rfl rfl rfl rfl rfl rfl rfl rfl rfl rfl (by first|rfl|kernel_rfl) (by repeat' first|exact Sub.nil _|exact Sub.refl _|refine Sub.agg ?_|refine Sub.tup ?_|refine Sub.fn ?_|exact SubL.nil|refine SubL.cons ?_ ?_|refine Sub.sl _ ?_|exact SubE.nil|refine SubE.cons ?_ ?_) (fun v b hF=>?_)
  |refine z1l.I hF fun a hF=>?_
  |refine AndA ?_
  |exact RetX.oB hF⟩
def zr9 (a0:z0m)(a1:z00)(a2:z03):List (Nat×Ent):=[]
def zdw (r:z0m×z00×z03):List (Nat×Ent):=[(3,.box 137 [.ref [aI r.1.fa.fVars,aI r.1.fa.fScopes,.sl 1 (r.1.fa.fStates.map z0q),.sl 17 (r.1.fa.fEdges.map z0w),.mapv (List.map (encM z1b z02) (r.1.fheld))]]),(4,.box 60 (z10 r.2.1)),(5,.box 71 (z16 r.2.2))]
def zg8 (r:z0m×z00×z03):AV:=.fn 156 [.ptr 3 0,.ptr 4 0,.ptr 5 0]
def zqx (r:z0m×z00×z03):AS:=⟨[(6,.fn 156 [.ptr 3 0,.ptr 4 0,.ptr 5 0])],zdw r⟩
theorem zoi {n a0 a1 a2 r}(hF:ze7 n a0 a1 a2=some r):ConG E0.P none (CalF E0.P 120 0) [.ref [aI a0.fa.fVars,aI a0.fa.fScopes,.sl 1 (a0.fa.fStates.map z0q),.sl 17 (a0.fa.fEdges.map z0w),.mapv (List.map (encM z1b z02) (a0.fheld))],z01 a1,z02 a2] [] (zr9 a0 a1 a2) (zg8 r) (zdw r):=by
 unfold ze7 at hF
 refine ConG.walk (E:=(E0p 3)) (caps:=[]) _ Tryz.func120 rfl rfl rfl rfl rfl ?_
 repeat' first
  |refine AW.step ?_;conv=>whnf
  |exact GX.A (res:=zg8) (meF:=zdw) hF zqx
def zna (m0:(List z00))(m1:(List z06)):List (Nat×Ent):=[(100000,.box 57 [.row 200000]),(200000,.row 60 3 (m0.map z01)),(100001,.box 50 [.row 200001]),(200001,.row 44 1 (m1.map z0d))]
def z4t (r:(List z00)×(List z06)):List (Nat×Ent):=[(100000,.box 57 [.row 250000]),(250000,.row 60 3 (r.1.map z01)),(100001,.box 50 [.row 250001]),(250001,.row 44 1 (r.2.map z0d))]
def zhh (r:(List z00)×(List z06)):AS:=⟨[(8,.ptr 100000 0),(9,.ptr 100001 0)],z4t r⟩
instance yb7 {n a0 a1}:CI E0 (zf5 n a0 a1) false 157 [.ref [aI a0.fa.fVars,aI a0.fa.fScopes,.sl 1 (a0.fa.fStates.map z0q),.sl 17 (a0.fa.fEdges.map z0w),.mapv (List.map (encM z1b z02) (a0.fheld))],.sl 4 (a1.map z0b)] zd2:=⟨fun {r} hF=>by
 unfold zf5 at hF
 refine cw Tryz.func157 ?_
 repeat' first
  |refine AW.nstO (er:=z02) 71 5 hF 13 rfl (fun hF=>?_)
  |refine AW.frrO (ety:=71) (sz:=5) z02 hF 13 rfl (fun hF=>?_)
  |refine AW.regO hF fun hF=>?_
  |refine AW.stepU [7,2] ?_;conv=>whnf
  |refine z12.o hF (fun hF=>?_) fun hF=>?_
  |refine OpX.nckR rfl rfl rfl rfl ?_
  |refine MakX.on hF (fun m hF=>?_)
  |refine IdxX.A hF fun x hF=>?_
  |refine OpX.ixc hF rfl rfl rfl rfl rfl rfl rfl rfl (fun hF=>?_)
  |refine OpX.ntk z02 hF rfl rfl rfl rfl rfl rfl rfl rfl rfl rfl (fun q hF=>?_)
  |refine OpX.lkv z1b z02 hF yir rfl rfl rfl rfl rfl rfl rfl rfl rfl rfl (by first|rfl|kernel_rfl) (by repeat' first|exact Sub.nil _|exact Sub.refl _|refine Sub.agg ?_|refine Sub.tup ?_|refine Sub.fn ?_|exact SubL.nil|refine SubL.cons ?_ ?_|refine Sub.sl _ ?_|exact SubE.nil|refine SubE.cons ?_ ?_) (fun v b hF=>?_)
  |refine AppX.oA hF fun l hF=>?_
  |refine OpX.npt z02 hF rfl rfl rfl rfl rfl rfl rfl rfl rfl rfl rfl (fun l hF=>?_)
  |exact ⟨_,hF,LeX.a []⟩
  |refine z7z.I hF (LeX.a []) fun m v hF=>?_
  |refine AndA ?_
  |refine EqX.A ?_
  |exact RetX.oB hF⟩
theorem ztf:Con E0 false 240 [] (.mapv [(aI 5,.fn 254 [.ref [.fn 253 []]]),(aI 6,.fn 255 [.ref [.fn 253 []]]),(aI 7,.fn 256 []),(aI 8,.fn 257 []),(aI 10,.fn 258 []),(aI 11,.fn 259 []),(aI 12,.fn 260 [])]):=by
 refine Con.walk _ Tryz.func240 rfl (z0x Tryz.func240 rfl rfl) rfl (Or.inl rfl) ?_
 repeat' first
  |refine AW.frb0 1 rfl rfl ?_
  |refine AW.into ?_
  |refine AW.stepU [2] ?_;conv=>whnf
  |refine UpX.mk _ _ (by first|rfl|kernel_rfl) (by first|rfl|kernel_rfl) (SubM.refl _) ?_
  |exact RetX.mk rfl
instance zzz {n a0f0 a0f1 a0f2 a1}:CI E0 (z7y n a0f0 a0f1 a0f2 a1) false 269 [.agg [.sl 1 (List.map (fun q=>AV.sl 5 (List.map z02 q)) (a0f0.fVars)),aI a0f1,aI a0f2.fSource,aI a0f2.fSeq,aI a0f2.fType,aI a0f2.fTime,.sl 3 (a0f2.fValues.map z08),.mapv [(aI 5,.fn 254 [.ref [.fn 253 []]]),(aI 6,.fn 255 [.ref [.fn 253 []]]),(aI 7,.fn 256 []),(aI 8,.fn 257 []),(aI 10,.fn 258 []),(aI 11,.fn 259 []),(aI 12,.fn 260 [])]],aI a1] (fun r=>.sl 5 (r.map z02)):=⟨fun {r} hF=>by
 unfold z7y at hF
 refine cw Tryz.func269 ?_
 repeat' first
  |refine AW.jI hF (fun v hF=>?_) fun hF=>?_
  |refine AW.regO hF fun hF=>?_
  |refine AW.stepU [1] ?_;conv=>whnf
  |refine z12.o hF (fun hF=>?_) fun hF=>?_
  |refine IdxX.o (fun q=>AV.sl 5 (List.map z02 q)) hF fun x hF=>?_
  |exact ⟨_,hF,LeX.a []⟩
  |exact RetX.oB hF⟩
instance yk3 {n a0 a1}:CI E0 (zgn n a0 a1) true 271 [z02 a0,aI a1] (fun r=>.tup [z08 r.1,aI r.2]):=by unfold zgn;exact CI.w [] Tryz.func271
instance y14 {n a0f0 a0f1 a0f2 a1}:CI E0 (zco n a0f0 a0f1 a0f2 a1) true 270 [.agg [.sl 1 (List.map (fun q=>AV.sl 5 (List.map z02 q)) (a0f0.fVars)),aI a0f1,aI a0f2.fSource,aI a0f2.fSeq,aI a0f2.fType,aI a0f2.fTime,.sl 3 (a0f2.fValues.map z08),.mapv [(aI 5,.fn 254 [.ref [.fn 253 []]]),(aI 6,.fn 255 [.ref [.fn 253 []]]),(aI 7,.fn 256 []),(aI 8,.fn 257 []),(aI 10,.fn 258 []),(aI 11,.fn 259 []),(aI 12,.fn 260 [])]],z0l a1] (fun r=>.tup [z08 r.1,aI r.2]):=⟨fun {r} hF=>by
 unfold zco at hF
 refine cw Tryz.func270 ?_
 repeat' first
  |refine AW.step ?_;conv=>whnf
  |refine z12.o hF (fun hF=>?_) fun hF=>?_
  |refine z1l.I hF fun a hF=>?_
  |refine zak.I hF (fun a hF=>?_) rfl rfl fun _=>Or.inr rfl
  |refine IdxX.A hF fun x hF=>?_
  |refine AppX.oA hF fun l hF=>?_
  |exact ⟨_,hF,LeX.a [(7034,34)]⟩
  |refine z7z.I hF ?_ fun m v hF=>?_
  |exact LeX.trans (LeX.adopt 6 7034 109 3 rfl rfl) (LeX.a [])
  |exact RetX.oB hF⟩
instance y2n {n a0f0 a0f1 a0f2 a1}:CI E0 (z9d n a0f0 a0f1 a0f2 a1) true 261 [.agg [.sl 1 (List.map (fun q=>AV.sl 5 (List.map z02 q)) (a0f0.fVars)),aI a0f1,aI a0f2.fSource,aI a0f2.fSeq,aI a0f2.fType,aI a0f2.fTime,.sl 3 (a0f2.fValues.map z08),.mapv [(aI 5,.fn 254 [.ref [.fn 253 []]]),(aI 6,.fn 255 [.ref [.fn 253 []]]),(aI 7,.fn 256 []),(aI 8,.fn 257 []),(aI 10,.fn 258 []),(aI 11,.fn 259 []),(aI 12,.fn 260 [])]],z0l a1] (fun r=>.tup [z08 r.1,aI r.2]):=by unfold z9d;exact CI.w [10,17] Tryz.func261
instance yfm {n a0 a1}:CI E0 (zhr n a0 a1) true 262 [aI a0,.sl 1 (a1.map aI)] aI:=by unfold zhr;exact CI.w [6,7,8,11,12,15] Tryz.func262
instance yjv {n a0}:CI E0 (zkw n a0) true 242 [.bool (a0)] z08:=by unfold zkw;exact CI.w [] Tryz.func242
instance ylv {n a0}:CI E0 (zai n a0) true 214 [.bool (a0)] z08:=by unfold zai;exact CI.w [] Tryz.func214
instance y8m {n a0}:CI E0 (zdp n a0) true 253 [aI a0] z08:=by unfold zdp;exact CI.w [] Tryz.func253
instance y8l {n a0 a1}:CI E0 (zdo n a0 a1) true 254 [aI a0,aI a1,.ref [.fn 253 []]] z08:=by unfold zdo;exact CI.w [] Tryz.func254
instance y8k {n a0 a1}:CI E0 (zdn n a0 a1) true 255 [aI a0,aI a1,.ref [.fn 253 []]] z08:=by unfold zdn;exact CI.w [] Tryz.func255
instance y8j {n a0 a1}:CI E0 (zdm n a0 a1) true 256 [aI a0,aI a1] z08:=by unfold zdm;exact CI.w [] Tryz.func256
instance y8i {n a0 a1}:CI E0 (zdl n a0 a1) true 257 [aI a0,aI a1] z08:=by unfold zdl;exact CI.w [] Tryz.func257
end
noncomputable section
abbrev zpx {n}:=jf (z78 n) (fun b=>⟨[(4,.ptr 4 0)],[(4,.box 109 [aI b.1,aI b.2.1,.str (b.2.2)])]⟩) fun _=>z78.eq_1 ..
abbrev zln {n b a1 a0f2 a0f1 a0f0 d}:=li (z6p n b a1 a0f2 a0f1 a0f0 d) (fun c=>⟨[(2,.ptr 2 0),(3,.ptr 3 0),(4,.ptr 4 0),(6,.row 7042),(7,.row 7047),(23,.sl 8 (a1.fArgs.map idA)),(24,aI (((a1.fArgs.map idA).length:Int))),(25,aI c.1)],[(2,.box 293 [.sl 1 (List.map (fun q=>AV.sl 5 (List.map z02 q)) (a0f0.fVars)),aI a0f1,aI a0f2.fSource,aI a0f2.fSeq,aI a0f2.fType,aI a0f2.fTime,.sl 3 (a0f2.fValues.map z08),.mapv [(aI 5,.fn 254 [.ref [.fn 253 []]]),(aI 6,.fn 255 [.ref [.fn 253 []]]),(aI 7,.fn 256 []),(aI 8,.fn 257 []),(aI 10,.fn 258 []),(aI 11,.fn 259 []),(aI 12,.fn 260 [])]]),(3,.box 111 (z8z a1)),(4,.box 109 [aI 0,aI 0,.str (ByteArray.empty)]),(7042,.row 109 3 (c.2.1.map z08)),(7047,.row 3 1 (c.2.2.map aI))]⟩) fun _ _=>z6p.eq_2 ..
abbrev zz5 {n}:=jf (zdr n) (fun b=>⟨[(8,.bool (b))],[]⟩) fun _=>zdr.eq_1 ..
abbrev zuy {n}:=jf (zbc n) (fun b=>⟨[(6,.bool (b))],[]⟩) fun _=>zbc.eq_1 ..
abbrev zkg {n b c a0 d}:=li (z5n n b c a0 d) (fun e=>⟨[(0,.sl 11 (a0.map z0u)),(1,.fn 158 [.ref (zd4 c),.ref (z16 b)]),(7,aI (((a0.map z0u).length:Int))),(8,aI e)],[]⟩) fun _ _=>z5n.eq_2 ..
abbrev zkh {n}:=jf (z3o n) (fun b=>⟨[(5,.bool (b))],[]⟩) fun _=>z3o.eq_1 ..
abbrev zkf {n b c d a0 e}:=li (z5m n b c d a0 e) (fun f=>⟨[(0,.sl 11 (a0.map z0u)),(1,.fn 188 [.ref (z2a d),.ref (zd4 c),.ref (z16 b)]),(7,aI (((a0.map z0u).length:Int))),(8,aI f)],[]⟩) fun _ _=>z5m.eq_2 ..
abbrev ziu {n a1 a0 b}:=li (z2u n a1 a0 b) (fun c=>⟨[(0,.sl 2 (a0.map z09)),(1,aI a1),(2,.fn 216 []),(8,aI (((a0.map z09).length:Int))),(9,aI c.1),(10,aI c.2)],[]⟩) fun _ _=>z2u.eq_2 ..
abbrev zxs {n a2 a1 b c d}:=jt (zdg n a2 a1 b c d) (fun e=>⟨[(2,aI a2),(7,.row 7033),(10,aI d.1),(14,.sl 1 (a1.map aI)),(15,aI (((a1.map aI).length:Int))),(16,aI b.1)],[(7033,.row 102 2 (e.map z09))]⟩) fun _=>zdg.eq_1 ..
attribute [instance] zpx zln zz5 zuy zkg zkh zkf ziu zxs
instance y8h {n a0 a1}:CI E0 (zdk n a0 a1) true 258 [aI a0,aI a1] z08:=by unfold zdk;exact CI.w [1] Tryz.func258
instance y8g {n a0 a1}:CI E0 (zdj n a0 a1) true 259 [aI a0,aI a1] z08:=by unfold zdj;exact CI.w [1] Tryz.func259
instance y8f {n a0 a1}:CI E0 (z9r n a0 a1) true 260 [aI a0,aI a1] z08:=by unfold z9r;exact CI.w [] Tryz.func260
def zq1 (r:z05×Int):AV:=.tup [.agg [aI (r.1.fKind),aI (r.1.fNum),.str (r.1.fText)],aI (r.2)]
theorem zko {n a0f0 a0f1 a0f2 a1 r}(hF:z3d n a0f0 a0f1 a0f2 a1=some r):Con E0 true 241 [.agg [.sl 1 (List.map (fun q=>AV.sl 5 (List.map z02 q)) (a0f0.fVars)),aI a0f1,aI a0f2.fSource,aI a0f2.fSeq,aI a0f2.fType,aI a0f2.fTime,.sl 3 (a0f2.fValues.map z08),.mapv [(aI 5,.fn 254 [.ref [.fn 253 []]]),(aI 6,.fn 255 [.ref [.fn 253 []]]),(aI 7,.fn 256 []),(aI 8,.fn 257 []),(aI 10,.fn 258 []),(aI 11,.fn 259 []),(aI 12,.fn 260 [])]],z0l a1] (.tup [z08 r.1,aI r.2]):=by
 induction n generalizing a0f0 a0f1 a0f2 a1 r
 case zero=>cases hF
 case succ n ih =>
 unfold z3d at hF
 refine cw Tryz.func241 ?_
 repeat' first
  |refine AW.step ?_;conv=>whnf
  |refine z12.o hF (fun hF=>?_) fun hF=>?_
  |refine z1l.I hF fun a hF=>?_
  |refine zak.I hF (fun a hF=>?_) rfl rfl fun _=>Or.inr rfl
  |refine NatX.o hF (fun m hF=>?_)
  |refine EltX.o z08 hF (fun x hF=>?_)
  |refine OpX.lkc rfl rfl rfl rfl rfl rfl rfl rfl rfl rfl (by first|rfl|kernel_rfl) ?_
  |refine LkC.cons hF (fun hF=>?_) (fun hF=>?_)
  |(cases hF;done)
  |refine LtX.o hF (fun hF=>?_)
  |refine IdxX.oD hF z42 (fun x hF=>?_)
  |refine z1l.o hF zq1 (fun a h=>ih h) (fun a hF=>?_)
  |refine AppX.oA hF fun l hF=>?_
  |exact ⟨_,hF,LeX.a [(7042,42),(7047,47)]⟩
  |refine z7z.I hF ?_ fun m v hF=>?_
  |exact LeX.trans (LeX.adopt 6 7042 109 3 rfl rfl) (LeX.trans (LeX.adopt 7 7047 3 1 rfl rfl) (LeX.a []))
  |refine AndA ?_
  |refine EqX.A ?_
  |exact RetX.oB hF
instance y2o {n a0f0 a0f1 a0f2 a1}:CI E0 (z3d n a0f0 a0f1 a0f2 a1) true 241 [.agg [.sl 1 (List.map (fun q=>AV.sl 5 (List.map z02 q)) (a0f0.fVars)),aI a0f1,aI a0f2.fSource,aI a0f2.fSeq,aI a0f2.fType,aI a0f2.fTime,.sl 3 (a0f2.fValues.map z08),.mapv [(aI 5,.fn 254 [.ref [.fn 253 []]]),(aI 6,.fn 255 [.ref [.fn 253 []]]),(aI 7,.fn 256 []),(aI 8,.fn 257 []),(aI 10,.fn 258 []),(aI 11,.fn 259 []),(aI 12,.fn 260 [])]],z0l a1] (fun r=>.tup [z08 r.1,aI r.2]):=⟨zko⟩
instance ylx {n a0 a1 a2 a3}:CI E0 (zox n a0 a1 a2 a3) true 213 [z0l a0,zd2 a1,aI a2,z02 a3] (fun r=>.tup [z08 r.1,aI r.2]):=⟨fun {r} hF=>by
 unfold zox at hF
 refine cw Tryz.func213 ?_
 repeat' first
  |refine AW.step ?_;conv=>whnf
  |refine z12.o hF (fun hF=>?_) fun hF=>?_
  |refine z1l.I hF fun a hF=>?_
  |refine z1l.mk _ _ ztf ?_
  |refine AndA ?_
  |exact RetX.oB hF⟩
def y96 (r:Bool):AV:=.bool (r)
instance y16 {n a0 a1 a2 a3}:CI E0 (zff n a0 a1 a2 a3) true 187 [z0l a0,zd2 a1,aI a2,z02 a3] (fun r=>.bool (r)):=by unfold zff;exact CI.w [2] Tryz.func187
instance yfx {n a0 a1 a2}:CI E0 (zfu n a0 a1 a2) true 159 [z0u a0,zd2 a1,z02 a2] (fun r=>.bool (r)):=by unfold zfu;exact CI.w [1] Tryz.func159
instance zze {n a0 a1 a2}:CI E0 (z4b n a0 a1 a2) true 158 [z0u a0,.ref (zd4 a1),.ref (z16 a2)] (fun r=>.bool (r)):=by unfold z4b;exact CI.w [] Tryz.func158
instance y0z {n a0 b c}:CI E0 (zah n a0 b c) true 181 [.sl 11 (a0.map z0u),.fn 158 [.ref (zd4 b),.ref (z16 c)]] aI:=by unfold zah;exact CI.w [] Tryz.func181
instance zxh {n a0 b c}:CI E0 (z8r n a0 b c) true 141 [.sl 11 (a0.map z0u),.fn 158 [.ref (zd4 b),.ref (z16 c)]] (fun r=>.bool (r)):=by unfold z8r;exact CI.w [] Tryz.func141
instance y11 {n a0 a1 a2 a3}:CI E0 (z3x n a0 a1 a2 a3) true 188 [z0u a0,.ref (z2a a1),.ref (zd4 a2),.ref (z16 a3)] (fun r=>.bool (r)):=by unfold z3x;exact CI.w [1] Tryz.func188
instance y0x {n a0 b c d}:CI E0 (zag n a0 b c d) true 181 [.sl 11 (a0.map z0u),.fn 188 [.ref (z2a b),.ref (zd4 c),.ref (z16 d)]] aI:=by unfold zag;exact CI.w [] Tryz.func181
instance zxg {n a0 b c d}:CI E0 (z8q n a0 b c d) true 141 [.sl 11 (a0.map z0u),.fn 188 [.ref (z2a b),.ref (zd4 c),.ref (z16 d)]] (fun r=>.bool (r)):=by unfold z8q;exact CI.w [] Tryz.func141
set_option maxHeartbeats 400000 in
theorem ybo (l:List (Cel 2))(S:Nat->Prop)(v:Value)(w:World)(h:Sl w S 2 encC v l)(hl:l.length<=1000000000) :
  Calls Tryz.prog 73 #[v] w (zwe 102 2 encC l w):=by
 have eok:EOk Tryz.prog 58 102 2 16 (encC (n:=2)):=eokC (sz:=2) (zs2 58 _ rfl) rfl (zs2 102 _ rfl) (by omega) rfl
 obtain ⟨A,c,rfl,hc,_⟩:=h.form
 have hq:=fun (W:World)=>Lib.run_eql_slice_nil W 58 102 A l.length c 0 0 Tryz.underlying58
 have H:=hide h
 cases A with
 |none =>
  have h0:l=[]:=h.none_nil
  subst h0
  clear h H hl hc
  simp only [length_nil,Option.isNone_none] at hq ⊢
  go_enter Tryz.func73,Tryz.ntmps73
  go_wp2
  go_ret
  exact ⟨none,0,rfl,Own.nil_,by go_grown⟩
 |some ad =>
  clear h
  go_enter Tryz.func73,Tryz.ntmps73
  go_wp2_with (at_builtin;refine zax rfl _ _ rfl eok rfl Own.made_ rfl (H.out.alloc _) (by simp;omega) (by omega) (by simp) ?_;intro A' c' w1 ho hg _)
  go_ret
  exact ⟨A',c',rfl,ho,(Own.made_ (sz:=2) (enc:=encC (n:=2))).grown ((Below.refl _ _).alloc (Nat.le_refl _) _) (Nat.le_refl _) (by simp) hg⟩
theorem zw7 {n a r}(hF:zay n a=some r):ConT E0 73 [.sl 2 (List.map z09 a)] 102 2 (List.map z09 r) (.row 0):=zjn rfl (z0x Tryz.func73 rfl rfl) ybo hF
theorem ybe {n a r}(hF:zay n a=some r):Con E0 false 73 [.sl 2 (List.map z09 a)] (.sl 2 (List.map z09 r)):=(zw7 hF).close rfl
instance yfy {n a0 a1}:CI E0 (zen n a0 a1) true 216 [z09 a0,aI a1] aI:=by unfold zen;exact CI.w [] Tryz.func216
instance zzd {n a0 a1}:CI E0 (z6n n a0 a1) true 215 [.sl 2 (a0.map z09),aI a1,.fn 216 []] (fun r=>.tup [aI r.1,.bool (r.2)]):=⟨fun {r} hF=>by
 unfold z6n at hF
 refine cw Tryz.func215 ?_
 repeat' first
  |refine AW.step ?_;conv=>whnf
  |refine z12.o hF (fun hF=>?_) fun hF=>?_
  |refine IdxX.A hF fun x hF=>?_
  |refine z1l.I hF fun a hF=>?_
  |exact ⟨_,hF,LeX.a []⟩
  |refine ShX.o hF (fun hF=>?_)
  |refine z7z.I hF (LeX.a []) fun m v hF=>?_
  |exact RetX.oB hF⟩
set_option maxRecDepth 100000 in
set_option maxHeartbeats 1600000 in
theorem y3m (l:List (Cel 2))(x:Cel 2)(i:Nat)(base:Nat)(A:Option Addr)(c g off c1:Nat)(w:World)(ho:Own w base 102 2 encC (.slice A l.length c) l)
  (hx:Xk w g off (encC x)) (hc1:1<=c1) (hne:(Value.slice A l.length c).ownBlock≠some g) (hi:i<=l.length) (hl:l.length<=1000000000) (hbase:base<=w.heap.size) :
  Calls Tryz.prog 217 #[.slice A l.length c,.int .i64 i,.slice (some ⟨g,off,none⟩) 1 c1] w (yjt 102 2 encC base (.slice A l.length c) (l.take i++x::l.drop i) w):=by
 have hlen:(l.take i++x::l.drop i).length=l.length+1:=by simp;omega
 have hxl:(encC x).length=2:=x.2.1
 have eok:EOk Tryz.prog 58 102 2 16 (encC (n:=2)):=eokC (sz:=2) (zs2 58 _ rfl) rfl (zs2 102 _ rfl) (by omega) rfl
 by_cases hin:i=l.length
 ·subst hin
  have hsl:Hid (Sl w (fun _=>True) 2 encC (.slice (some ⟨g,off,none⟩) 1 c1) [x]):=Sl.one_x hc1 hx
  have H:=hide ho
  have hll:Hid (l.take l.length++x::l.drop l.length=l++[x]):=by simp [Hid]
  have hc:l.length<=c:=by obtain ⟨_,_,he,h1,_⟩:=ho.val;injection he with _ _ hc;omega
  rw [hll.out]
  clear ho hx hne hlen
  go_enter Tryz.func217,Tryz.ntmps217
  go_wp2_with (at_builtin;refine zax (v:=.slice A l.length c) rfl _ _ rfl eok rfl H.out rfl hsl.out (by simp;omega) (by omega) hbase ?_;intro A2 c2 w2 ho2 hg2 hb2)
  all_goals (go_ret;exact ⟨A2,c2,by simp,ho2,by cases A<;>exact hg2,by cases A<;>exact hb2⟩)
 ·rcases ho.2 with ⟨hv,h0⟩|⟨g',cap,cur,hv,hbg,hh,hnc,hcm,hcs,htake⟩
  ·omega
  injection hv with hA _ hcc
  subst hA
  subst hcc
  have hgg:g'≠g:=fun e=>hne (by simp [Value.ownBlock,e])
  have hlt:i<l.length:=by omega
  have hF1:((l.take i).flatMap encC).length=i*2:=by rw [zt8 (sz:=2) (fun y=>y.2.1)];simp;omega
  have hF2:((l.drop i).flatMap encC).length=(l.length-i)*2:=by rw [zt8 (sz:=2) (fun y=>y.2.1)];simp
  have hF12:(l.take i).flatMap encC++(l.drop i).flatMap encC=l.flatMap encC:=by rw [<-flatMap_append,take_append_drop]
  have hres:(l.take i++x::l.drop i).flatMap encC=(l.take i).flatMap encC++encC x++(l.drop i).flatMap encC:=by simp [flatMap_append,flatMap_cons]
  have h2:=yax eok.one (l.drop i)
  have hX1:=eok.one x
  have hcur:cur.toList=(l.take i).flatMap encC++(l.drop i).flatMap encC++cur.toList.drop (l.length*2):=by rw [hF12,<-htake,take_append_drop]
  generalize hf1:(l.take i).flatMap encC=F1 at *
  generalize hf2:(l.drop i).flatMap encC=F2 at *
  generalize hX:encC x=X at *
  have hRl:(cur.toList.drop (l.length*2)).length=c*2-l.length*2:=by simp [hcs]
  generalize cur.toList.drop (l.length*2)=R at *
  obtain ⟨cur⟩:=cur
  simp only at hcur
  subst hcur
  generalize hn:l.length=n at *
  by_cases hroom:n+1<=c
  ·have hhi:(i:Int)<(n:Int):=by omega
   have hB0:Blk w g' 102 (F1++F2++R).toArray:=hh
   have hov:∀ lb cb,(callFunc 243 #[.slice (some ⟨g,off,none⟩) 1 c1,.slice (some ⟨g',(i+1)*2,none⟩) lb cb]).run Tryz.prog w=.ok (.value (.bool false)) w:=fun lb cb=>by
    rw [run_callFunc_extern Tryz.func243 (by kernel_rfl) (by kernel_rfl) (by kernel_rfl) (e:=Extern.SlicesOverlaps.overlaps #[58,58] #[4]) (by kernel_rfl),
     y00 w 58 4 102 Tryz.underlying58 2 (fun _=>by kernel_rfl) ⟨g,off,none⟩ ⟨g',(i+1)*2,none⟩ 1 c1 lb cb (fun e=>hgg e.symm) hx.shape 102 (F1++F2++R).toArray.size (hB0.shape) (by rw [size_toArray,length_append,length_append];omega) (hB0.frozen _) (hB0.frozen _)]
    rfl
   have hBH:=hide hB0
   have hxH:=hide hx
   have hdl:Hid (F2.length=Nat.min (n+1-i) (n-i)*2):=by unfold Hid;rw [show Nat.min (n+1-i) (n-i)=n-i from Nat.min_eq_right (by omega)];exact hF2
   have hsrc:Hid (∀ (W:World),W.heap=w.heap->∀ j u,F2[j]? = some u->W.cell? ((⟨g',i*2,none⟩:Addr).add j)=some u):=fun W hW j u hu=>by
    have e:Blk W g' 102 (F1++F2++R).toArray:=by unfold Blk;rw [hW];exact hB0
    rw [Addr.add_lit,e.cell]
    have hj:=(List.getElem?_eq_some_iff.1 hu).1
    simp only [getElem?_toArray]
    rw [append_assoc,getElem?_append_right (by omega),getElem?_append_left (by omega),show i*2+j-F1.length=j by omega]
    exact hu
   have hHx:=hide h2
   have HL:=hide (And.intro hlen (And.intro hres (And.intro hbg hcs)))
   have hxl:=hide hxl
   clear hx hB0 hh htake hne hF12 hcs ho h2 hlen hres
   go_enter Tryz.func217,Tryz.ntmps217
   go_wp2_with fail
   have hw1:IntKind.i64.wrap ((i:Int)+1)=(i:Int)+1:=by rw [IntKind.wrap_i64];omega
   have hb1:(0:Int)<=(i:Int)+1:=by omega
   have hii:i<=n:=by omega
   have htn:((i:Int)+1).toNat=i+1:=by omega
   have hb2:¬(c=i+1):=by omega
   have hb3:(i:Int)<=(n:Int)+1:=by omega
   have hb4:¬(c=i):=by omega
   go_region_law (refine ztp rfl _ _ 58 58 rfl 102 2 Tryz.underlying58 (by kernel_rfl) g' ((i+1)*2) (n-i) (c-(i+1)) (n+1-i) (c-i) ⟨g',i*2,none⟩ (by simp [Act.eval,Act.put]) (by simp [Act.eval,Act.put]) 102 (F1++F2++R) hBH.out F2 hdl.out (hsrc.out _ rfl) (by simp;omega) hHx.out ?_;intro w1 hB1 hg1)
   clear hw1 hb1 htn hb2
   have hB1':Hid (Blk w1 g' 102 ((F1++F2++R).take (i*2+2)++F2++(F1++F2++R).drop (i*2+2+F2.length)).toArray):=by
    have e:(i+1)*2=i*2+2:=by omega
    rw [e] at hB1
    exact hB1
   have hX2:Hid (∀ j u,X[j]? = some u->w1.cell? ((⟨g,off,none⟩:Addr).add j)=some u):=fun j u hu=>by
    have e:Xk w1 g off X:=Xk.grown (w:=w.drew) hxH.out hg1 (by simp;omega)
    rw [Addr.add_lit]
    exact e.cell hu
   have hg1':=hide (zi2 hg1)
   have hX1':=hide hX1
   clear hB1 hg1 hX1
   go_wp2_with (refine zq4 rfl (.tmp 80) (.tmp 81) 58 58 rfl 102 2 Tryz.underlying58 (by kernel_rfl) g' (i*2) (n+1-i) (c-i) 1 c1 ⟨g,off,none⟩ rfl rfl 102 _ hB1'.out X (by rw [show Nat.min 1 (n+1-i)=1 from Nat.min_eq_left (by omega)];exact hxl.out) hX2.out (by have:=hxl.out;have:=hRl;simp;omega) hX1'.out ?_;intro w2 hB2 hg2)
   go_ret
   have hfin:=HL.out
   refine ⟨some ⟨g',0,none⟩,c,by show Ending.returned (.slice (some ⟨g',0,none⟩) (n+1) c)=_;rw [hfin.1],Own.of_blk hB2 hfin.2.2.1 (by rw [hfin.1];exact hroom) hcm (by have:=hxl.out;have:=hRl;simp;omega) ?_ (fun y=>y.2.1),zu3 hg1'.out hg2,Or.inl rfl⟩
   rw [hfin.1,hfin.2.1,<-zyp F1 F2 R X (i*2) 2 ((n-i)*2) hF1 hF2 hxl.out (by omega)]
   congr 1
   omega
  ·have hB0:Blk w g' 102 (F1++F2++R).toArray:=hh
   obtain ⟨i0,z,hi0,hz0,hzs,hzb,hzc⟩:=eok.inf
   have hik:i+(n+1-i)=n+1:=by omega
   have hkk:(n:Int)+1-(i:Int)=((n+1-i:Nat):Int):=by omega
   have hgw:g' < w.heap.size:=hB0.lt
   have hgx:g<w.heap.size:=hx.lt
   have hold:(Builtin.firstCells i0.size i (.slice (some ⟨g',0,none⟩) i c)).run Tryz.prog w.drew=.ok F1.toArray w.drew:=by
    rw [hzs]
    refine run_firstCells_some w.drew 2 i ⟨g',0,none⟩ i c F1 hF1 (fun j v hj=>?_)
    have hjl:=(List.getElem?_eq_some_iff.1 hj).1
    rw [Addr.add_lit]
    refine (hB0.cell _).trans ?_
    simp only [getElem?_toArray,Nat.zero_add]
    rw [append_assoc,getElem?_append_left (by omega)]
    exact hj
   have hrz:=fun ty=>Lib.run_append_grow_zeros w 58 3 ty 102 i0 z .i64 .i64 eok.und Tryz.underlying3 hi0 hz0 (some ⟨g',0,none⟩) i c F1 hold (n+1-i) (by omega) (by omega) (by omega) (by omega) (by rw [hzb];omega) (by rw [hzb,hik];exact growslice_fits (by omega) (by omega))
   rw [hik] at hrz
   obtain ⟨G,hG⟩:∃ G,G=grownCap w (n+1) c 102:=⟨_,rfl⟩
   rw [<-hG] at hrz
   have hGn:n+1<=G:=by rw [hG];exact grownCap_ge w _ _ _
   have hG63:G<=maxLen:=by rw [hG];exact grownCap_le_maxLen w (n+1) c 102 (by unfold maxLen;omega)
   obtain ⟨Z,hZ,hZl⟩:∃ Z:List Value,F1.toArray++Builtin.zeroCells z.cells (n+1-i)++Builtin.zeroCells z.cells (G-(n+1))=(F1++Z).toArray/\Z.length=(G-i)*2 :=
    ⟨(Builtin.zeroCells z.cells (n+1-i)).toList++(Builtin.zeroCells z.cells (G-(n+1))).toList,by simp [Array.append_assoc],by simp [size_zeroCells,hzc];omega⟩
   rw [hZ] at hrz
   obtain ⟨W1,hW1⟩:∃ W1,W1=w.drew.alloc (.cells (F1++Z).toArray 102):=⟨_,rfl⟩
   have hBN:Hid (Blk W1 w.heap.size 102 (F1++Z).toArray):=by rw [hW1];exact Blk.new w.drew _ _
   have hxN:Hid (Xk W1 g off X):=by rw [hW1];exact Xk.alloc (w:=w.drew) hx _
   have hB1:Hid (Blk W1 g' 102 (F1++F2++R).toArray):=by rw [hW1];exact Blk.alloc (w:=w.drew) hB0 _
   have hgW:Hid (∀ b,W1.grownBy b (some w.heap.size)->∀ row,w.grownBy b row):=fun b hb row=>by
    rw [hW1] at hb
    exact zi2 (zu4 hb row)
   have hrz':Hid (∀ ty,(Builtin.append_ #[58,3] ty #[.slice (some ⟨g',0,none⟩) i c,.int .i64 ((n:Int)+1-(i:Int))]).run Tryz.prog w=.ok (.slice (some ⟨w.heap.size,0,none⟩) (n+1) G) W1):=fun ty=>by
    rw [hkk,hW1]
    exact hrz ty
   have hX2:Hid (∀ j u,X[j]? = some u->W1.cell? ((⟨g,off,none⟩:Addr).add j)=some u):=fun j u hu=>by
    rw [Addr.add_lit]
    exact hxN.out.cell hu
   have HL:=hide (And.intro hlen (And.intro hres (And.intro hbg hcs)))
   have hxl:=hide hxl
   have hX1':=hide hX1
   have h2':=hide h2
   have hF2':Hid (F2.length=Nat.min (n-i) (n-i)*2):=by unfold Hid;rw [show Nat.min (n-i) (n-i)=n-i from Nat.min_self _];exact hF2
   have hhi:(i:Int)<(n:Int):=by omega
   have hhc:(c:Int)<(n:Int)+1:=by omega
   have hii:i<=n:=by omega
   have hci:¬(c=i):=by omega
   have hGi:¬(G=i):=by omega
   have hGi1:¬(G=i+1):=by omega
   have hGl:G<=9223372036854775807:=by unfold maxLen at hG63;omega
   clear hx hB0 hh htake hne hF12 hcs ho h2 hlen hres hX1 hrz hold hW1 hZ hG hkk hzs hzb hzc hz0 hi0 hcm
   go_enter Tryz.func217,Tryz.ntmps217
   go_wp2_with (first|(at_builtin;refine Lib.wpList_append_run _ rfl _ _ _ _ rfl _ _ rfl rfl _ _ (hrz'.out _) ?_)|(refine zq4 rfl (.tmp 43) (.tmp 44) 58 58 rfl 102 2 Tryz.underlying58 (by kernel_rfl) w.heap.size (i*2) (n+1-i) (G-i) 1 c1 ⟨g,off,none⟩ rfl rfl 102 _ hBN.out X (by rw [show Nat.min 1 (n+1-i)=1 from Nat.min_eq_left (by omega)];exact hxl.out) hX2.out (by have:=hxl.out;simp;omega) hX1'.out ?_;intro w2 hB2 hg2))
   have hgN:g'≠w.heap.size:=by omega
   have hsrc:Hid (∀ j u,F2[j]? = some u->w2.cell? ((⟨g',i*2,none⟩:Addr).add j)=some u):=fun j u hu=>by
    have e:Blk w2 g' 102 (F1++F2++R).toArray:=hB1.out.grown hg2 (by simp;omega)
    rw [Addr.add_lit,e.cell]
    have hj:=(List.getElem?_eq_some_iff.1 hu).1
    simp only [getElem?_toArray]
    rw [append_assoc,getElem?_append_right (by omega),getElem?_append_left (by omega),show i*2+j-F1.length=j by omega]
    exact hu
   have hg2':=hide hg2
   have hB2':=hide hB2
   have hw1:IntKind.i64.wrap ((i:Int)+1)=(i:Int)+1:=by rw [IntKind.wrap_i64];omega
   have hb1:(0:Int)<=(i:Int)+1:=by omega
   have htn:((i:Int)+1).toNat=i+1:=by omega
   have hb3:(i:Int)<=(n:Int):=by omega
   have hb5:(i:Int)+1<=(n:Int)+1:=by omega
   clear hg2 hB2
   go_region_law (refine ztp rfl _ _ 58 58 rfl 102 2 Tryz.underlying58 (by kernel_rfl) w.heap.size ((i+1)*2) (n-i) (G-(i+1)) (n-i) (c-i) ⟨g',i*2,none⟩ (by simp [Act.eval,Act.put]) (by simp [Act.eval,Act.put]) 102 _ hB2'.out F2 hF2'.out hsrc.out (by have:=hxl.out;simp;omega) h2'.out ?_;intro w3 hB3 hg3)
   clear hw1 hb1 htn hb3 hb5
   have hB3':Hid (Blk w3 w.heap.size 102 (((F1++Z).take (i*2)++X++(F1++Z).drop (i*2+X.length)).take (i*2+2)++F2++((F1++Z).take (i*2)++X++(F1++Z).drop (i*2+X.length)).drop (i*2+2+F2.length)).toArray):=by
    have e:(i+1)*2=i*2+2:=by omega
    rw [e] at hB3
    exact hB3
   have hg3':=hide (zi2 hg3)
   clear hB3 hg3
   go_wp2
   go_ret
   have hfin:=HL.out
   have hx2:=hxl.out
   refine ⟨some ⟨w.heap.size,0,none⟩,G,by show Ending.returned (.slice (some ⟨w.heap.size,0,none⟩) (n+1) G)=_;rw [hfin.1],Own.of_blk hB3'.out hbase (by rw [hfin.1];exact hGn) hG63 (by simp;omega) ?_ (fun y=>y.2.1),hgW.out _ (zu3 hg2'.out hg3'.out) _,Or.inr rfl⟩
   rw [hfin.1,hfin.2.1,<-y7m F1 F2 Z X (i*2) 2 ((n-i)*2) hF1 hF2 hx2 (by omega)]
   congr 1
   omega
theorem y17 {n a v r i}(hF:zs1 n a i v=some r):ConC false E0 217 [.row 0,aI i,.sl 2 (List.map z09 v)] 102 2 (List.map z09 a) 102 2 (List.map z09 r) (.row 0):=yfg rfl (z0x Tryz.func217 rfl rfl) (by omega) y3m hF
end
noncomputable section
abbrev zxr {n a2 a1 b}:=li (zbr n a2 a1 b) (fun c=>⟨[(2,aI a2),(7,.row 7013),(14,.sl 1 (a1.map aI)),(15,aI (((a1.map aI).length:Int))),(16,aI c.1)],[(7013,.row 102 2 (c.2.map z09))]⟩) fun _ _=>zbr.eq_2 ..
abbrev zke {n b a0 c}:=li (z5l n b a0 c) (fun d=>⟨[(0,.sl 2 (a0.map z09)),(1,.fn 219 [.ref (zop b)]),(7,aI (((a0.map z09).length:Int))),(8,aI d)],[]⟩) fun _ _=>z5l.eq_2 ..
abbrev zxv {n a2 a1 a0 b c}:=jf (zdh n a2 a1 a0 b c) (fun d=>⟨[(0,.sl 2 (a0.map z09)),(2,aI a2),(10,.sl 2 (a1.map z27)),(11,aI (((a1.map z27).length:Int))),(12,aI b),(32,.bool (d))],[]⟩) fun _=>zdh.eq_1 ..
abbrev zxt {n a2 a1 a0 b}:=li (zbs n a2 a1 a0 b) (fun c=>⟨[(0,.sl 2 (a0.map z09)),(2,aI a2),(10,.sl 2 (a1.map z27)),(11,aI (((a1.map z27).length:Int))),(12,aI c)],[]⟩) fun _ _=>zbs.eq_2 ..
abbrev zkd {n b a0 c}:=li (z5k n b a0 c) (fun d=>⟨[(0,.sl 2 (a0.map z09)),(1,.fn 194 [.ref (z2a b)]),(7,aI (((a0.map z09).length:Int))),(8,aI d)],[]⟩) fun _ _=>z5k.eq_2 ..
abbrev zpp {n c}:=li (z74 n c) (fun b=>⟨[(0,.row 200001),(1,.fn 194 [.ptr 100000 0]),(5,aI b.1),(6,aI b.2.1)],[(100000,.box 115 [aI b.2.2.1,aI b.2.2.2.1,aI b.2.2.2.2.1,aI b.2.2.2.2.2.1,aI b.2.2.2.2.2.2.1,.sl 8 (b.2.2.2.2.2.2.2.1.map idA),aI b.2.2.2.2.2.2.2.2.1,aI b.2.2.2.2.2.2.2.2.2.1,aI b.2.2.2.2.2.2.2.2.2.2.1,aI b.2.2.2.2.2.2.2.2.2.2.2.1,aI b.2.2.2.2.2.2.2.2.2.2.2.2.1,.str (b.2.2.2.2.2.2.2.2.2.2.2.2.2.1),.sl 1 (b.2.2.2.2.2.2.2.2.2.2.2.2.2.2.1.map aI),.sl 1 (b.2.2.2.2.2.2.2.2.2.2.2.2.2.2.2.1.map aI),.sl 8 (b.2.2.2.2.2.2.2.2.2.2.2.2.2.2.2.2.1.map idA),.sl 2 (b.2.2.2.2.2.2.2.2.2.2.2.2.2.2.2.2.2.1.map z27),.sl 1 (b.2.2.2.2.2.2.2.2.2.2.2.2.2.2.2.2.2.2.1.map aI)]),(200001,.row 102 2 (b.2.2.2.2.2.2.2.2.2.2.2.2.2.2.2.2.2.2.2.map z09))]⟩) fun _ _=>z74.eq_2 ..
abbrev zmr {n a4 a2 a1 x5 c b}:=li (z7s n a4 a2 a1 x5 c b) (fun d=>⟨[(6,.ptr 6 0),(7,.ptr 7 0),(9,.ptr 9 0),(10,.ptr 10 0),(12,.row 52),(13,.ptr 13 0),(81,.sl 8 (a2.fChecks.map idA)),(82,aI (((a2.fChecks.map idA).length:Int))),(83,aI d)],[(6,.box 60 (z10 a1)),(7,.box 115 (z2a a2)),(9,.box 71 (z16 a4)),(10,.box 60 [aI 0,.nils,.nils]),(13,.box 220 [.row 63]),(52,.row 102 2 (x5.map z09)),(63,.row 26 1 (List.map (fun q=>AV.sl 5 (List.map z02 q)) (c)))]⟩) fun _ _=>z7s.eq_2 ..
abbrev zms {n a4 a3 a2 a1}:=jf (z1y n a4 a3 a2 a1) (fun b=>⟨[(6,.ptr 6 0),(7,.ptr 7 0),(8,.ptr 8 0),(9,.ptr 9 0),(10,.ptr 10 0),(44,.bool (b))],[(6,.box 60 (z10 a1)),(7,.box 115 (z2a a2)),(8,.box 220 (zd4 a3)),(9,.box 71 (z16 a4)),(10,.box 60 [aI 0,.nils,.nils])]⟩) fun _=>z1y.eq_1 ..
attribute [instance] zxr zke zxv zxt zkd zpp zmr zms
def zr4 (r:(List z0a)):AV:=.row 0
theorem zzi {n a0 a1 a2 r}(hF:zij n a0 a1 a2=some r):ConT E0 189 [.sl 2 (a0.map z09),.sl 1 (a1.map aI),aI a2] 102 2 (r.map z09) (zr4 r):=by
 unfold zij at hF
 refine ConT.walk _ Tryz.func189 rfl (z0x Tryz.func189 rfl rfl) rfl rfl ?_
 repeat' first
  |refine AW.jI2 hF (fun v hF=>?_) fun hF=>?_
  |refine AW.regO hF fun hF=>?_
  |refine AW.stepU [6] ?_;conv=>whnf
  |refine z12.o hF (fun hF=>?_) fun hF=>?_
  |refine z1l.oR hF (fun r=>r) z09 (fun _=>AV.row 0) rfl (fun a h=>zw7 h) (fun a hF=>?_)
  |refine IdxX.A hF fun x hF=>?_
  |refine zak.I hF (fun a hF=>?_) rfl rfl fun _=>Or.inr rfl
  |refine NatX.o hF (fun m hF=>?_)
  |refine LtX.o hF (fun hF=>?_)
  |refine SetX.o z09 hF (fun x=>rfl) (fun x=>(by first|exact SubL.refl _|(repeat' first|exact SubL.nil|refine SubL.cons ?_ ?_|exact Sub.refl _|exact Sub.nil _|refine Sub.agg ?_))) (fun l hF=>?_)
  |exact ⟨_,hF,LeX.a [(7013,7033)]⟩
  |refine zak.oC hF 7013 (fun r=>r) z09 (fun _=>AV.row 0) rfl (fun a h=>y17 h) rfl rfl rfl rfl rfl rfl (fun a hF=>?_)
  |exact ⟨_,hF,LeX.a [(7033,33)]⟩
  |exact ⟨_,hF,LeX.a [(7033,7013)]⟩
  |refine z7z.I hF ?_ fun m v hF=>?_
  |exact LeX.a [(7013,13)]
  |refine TX.o (rl:=fun r=>r.map z09) (res:=zr4) hF ?_;exact TX.mk _ 7013 (LeX.refl _ _ _) _ rfl rfl (by repeat' first|exact Sub.nil _|exact Sub.refl _|refine Sub.agg ?_|refine Sub.tup ?_|refine Sub.fn ?_|exact SubL.nil|refine SubL.cons ?_ ?_|refine Sub.sl _ ?_|exact SubE.nil|refine SubE.cons ?_ ?_)
instance yfz {n a0 a1}:CI E0 (zh7 n a0 a1) true 219 [z09 a0,.ref (zop a1)] (fun r=>.bool (r)):=by unfold zh7;exact CI.w [] Tryz.func219
instance y0w {n a0 b}:CI E0 (zaf n a0 b) true 218 [.sl 2 (a0.map z09),.fn 219 [.ref (zop b)]] aI:=by unfold zaf;exact CI.w [] Tryz.func218
instance yjy {n a0 a1 a2}:CI E0 (zik n a0 a1 a2) true 190 [.sl 2 (a0.map z09),.sl 2 (a1.map z27),aI a2] (fun r=>.bool (r)):=⟨fun {r} hF=>by
 unfold zik at hF
 refine cw Tryz.func190 ?_
 repeat' first
  |refine AW.jI hF (fun v hF=>?_) fun hF=>?_
  |refine AW.regO hF fun hF=>?_
  |refine AW.stepU [5] ?_;conv=>whnf
  |refine z12.o hF (fun hF=>?_) fun hF=>?_
  |refine IdxX.A hF fun x hF=>?_
  |refine zak.I hF (fun a hF=>?_) rfl rfl fun _=>Or.inr rfl
  |exact ⟨_,hF,LeX.a []⟩
  |refine z7z.I hF (LeX.a []) fun m v hF=>?_
  |refine AndA ?_
  |exact RetX.oB hF⟩
set_option maxHeartbeats 400000 in
theorem y8s (l:List (Cel 1))(S:Nat->Prop)(v:Value)(w:World)(h:Sl w S 1 encC v l)(hl:l.length<=1000000000) :
  Calls Tryz.prog 191 #[v] w (zwe 26 1 encC l w):=by
 have eok:EOk Tryz.prog 218 26 1 24 (encC (n:=1)):=eokC (sz:=1) (zs2 218 _ rfl) rfl (zs2 26 _ rfl) (by omega) rfl
 obtain ⟨A,c,rfl,hc,_⟩:=h.form
 have hq:=fun (W:World)=>Lib.run_eql_slice_nil W 218 26 A l.length c 0 0 Tryz.underlying218
 have H:=hide h
 cases A with
 |none =>
  have h0:l=[]:=h.none_nil
  subst h0
  clear h H hl hc
  simp only [length_nil,Option.isNone_none] at hq ⊢
  go_enter Tryz.func191,Tryz.ntmps191
  go_wp2
  go_ret
  exact ⟨none,0,rfl,Own.nil_,by go_grown⟩
 |some ad =>
  clear h
  go_enter Tryz.func191,Tryz.ntmps191
  go_wp2_with (at_builtin;refine zax rfl _ _ rfl eok rfl Own.made_ rfl (H.out.alloc _) (by simp;omega) (by omega) (by simp) ?_;intro A' c' w1 ho hg _)
  go_ret
  exact ⟨A',c',rfl,ho,(Own.made_ (sz:=1) (enc:=encC (n:=1))).grown ((Below.refl _ _).alloc (Nat.le_refl _) _) (Nat.le_refl _) (by simp) hg⟩
theorem y4r {n a r}(hF:zay n a=some r):ConT E0 191 [.sl 1 (List.map (fun q=>AV.sl 5 (List.map z02 q)) a)] 26 1 (List.map (fun q=>AV.sl 5 (List.map z02 q)) r) (.row 0):=zjn rfl (z0x Tryz.func191 rfl rfl) y8s hF
set_option maxHeartbeats 400000 in
theorem y8r (l:List (Cel 5))(S:Nat->Prop)(v:Value)(w:World)(h:Sl w S 5 encC v l)(hl:l.length<=1000000000) :
  Calls Tryz.prog 192 #[v] w (zwe 71 5 encC l w):=by
 have eok:EOk Tryz.prog 26 71 5 56 (encC (n:=5)):=eokC (sz:=5) (zs2 26 _ rfl) rfl (zs2 71 _ rfl) (by omega) rfl
 obtain ⟨A,c,rfl,hc,_⟩:=h.form
 have hq:=fun (W:World)=>Lib.run_eql_slice_nil W 26 71 A l.length c 0 0 Tryz.underlying26
 have H:=hide h
 cases A with
 |none =>
  have h0:l=[]:=h.none_nil
  subst h0
  clear h H hl hc
  simp only [length_nil,Option.isNone_none] at hq ⊢
  go_enter Tryz.func192,Tryz.ntmps192
  go_wp2
  go_ret
  exact ⟨none,0,rfl,Own.nil_,by go_grown⟩
 |some ad =>
  clear h
  go_enter Tryz.func192,Tryz.ntmps192
  go_wp2_with (at_builtin;refine zax rfl _ _ rfl eok rfl Own.made_ rfl (H.out.alloc _) (by simp;omega) (by omega) (by simp) ?_;intro A' c' w1 ho hg _)
  go_ret
  exact ⟨A',c',rfl,ho,(Own.made_ (sz:=5) (enc:=encC (n:=5))).grown ((Below.refl _ _).alloc (Nat.le_refl _) _) (Nat.le_refl _) (by simp) hg⟩
theorem y4q {n a r}(hF:zay n a=some r):ConT E0 192 [.sl 5 (List.map z02 a)] 71 5 (List.map z02 r) (.row 0):=zjn rfl (z0x Tryz.func192 rfl rfl) y8r hF
instance y10 {n a0 a1}:CI E0 (z64 n a0 a1) true 194 [z09 a0,.ref (z2a a1)] (fun r=>.bool (r)):=by unfold z64;exact CI.w [] Tryz.func194
instance y0v {n a0 b}:CI E0 (zae n a0 b) true 218 [.sl 2 (a0.map z09),.fn 194 [.ref (z2a b)]] aI:=by unfold zae;exact CI.w [] Tryz.func218
def zj2 (a0:z0a)(m0:z0t):List (Nat×Ent):=[(100000,.box 115 (z2a m0))]
def zaa (r:Bool×z0t):List (Nat×Ent):=[(100000,.box 115 (z2a r.2))]
def zcf (r:Bool×z0t):AV:=.bool (r.1)
def zj0 (r:Bool×z0t):AS:=⟨[(3,.bool (r.1)),(1,.ptr 100000 0)],zaa r⟩
theorem zie {n a0 m0 r}(hF:z4h n a0 m0=some r):ConG E0.P none (CalF E0.P 194 0) [z09 a0,.ptr 100000 0] [] (zj2 a0 m0) (zcf r) (zaa r):=by
 unfold z4h at hF
 refine ConG.walk (E:=(E0p 2)) (caps:=[]) _ Tryz.func194 rfl rfl rfl rfl rfl ?_
 repeat' first
  |refine AW.step ?_;conv=>whnf
  |refine z1l.I hF fun a hF=>?_
  |exact GX.A (res:=zcf) (meF:=zaa) hF zj0
def ztm (m0:z0t)(m1:(List z0a)):List (Nat×Ent):=[(100000,.box 115 (z2a m0)),(200001,.row 102 2 (m1.map z09))]
def zd5 (r:(List z0a)×z0t):List (Nat×Ent):=[(260000,.row 102 2 (r.1.map z09)),(100000,.box 115 (z2a r.2))]
def zfj (r:(List z0a)×z0t):AV:=.row 260000
def zjs (r:(List z0a)×z0t):AS:=⟨[(4,.row 260000),(1,.fn 194 [.ptr 100000 0])],zd5 r⟩
theorem zqm {n m0 m1 r}(hF:zdf n m0 m1=some r):ConG E0.P none (CalF E0.P 193 0) [.row 200001,.fn 194 [.ptr 100000 0]] [] (ztm m0 m1) (zfj r) (zd5 r):=by
 unfold zdf at hF
 refine ConG.walk (E:=(E0p 2)) (caps:=[]) _ Tryz.func193 rfl rfl rfl rfl rfl ?_
 repeat' first
  |refine AW.step ?_;conv=>whnf
  |refine z12.o hF (fun hF=>?_) fun hF=>?_
  |refine zak.I hF (fun a hF=>?_) rfl rfl fun _=>Or.inr rfl
  |refine GX.o (res:=zfj) (meF:=zd5) hF ?_;exact GX.mk (zjs _) (LeX.a [(260000,200001)]) rfl _ rfl (by repeat' first|exact Sub.nil _|exact Sub.refl _|refine Sub.agg ?_|refine Sub.tup ?_|refine Sub.fn ?_|exact SubL.nil|refine SubL.cons ?_ ?_|refine Sub.sl _ ?_|exact SubE.nil|refine SubE.cons ?_ ?_) [100000] ⟨Or.inr ⟨1,0,_,_,_,_,_,Nat.le_of_ble_eq_true rfl,rfl,rfl,rfl,rfl,rfl⟩,trivial⟩ rfl
  |refine OpX.sub hF rfl rfl rfl rfl rfl rfl rfl rfl rfl rfl (fun m hF=>?_)
  |refine OpX.clr z09 hF rfl rfl rfl rfl rfl rfl rfl rfl rfl rfl rfl (by first|exact SubL.refl _|(repeat' first|exact SubL.nil|refine SubL.cons ?_ ?_|exact Sub.refl _|exact Sub.nil _|refine Sub.agg ?_)) (fun l hF=>?_)
  |refine SlsX.o z09 hF (fun l hF=>?_)
  |refine GX.o (res:=zfj) (meF:=zd5) hF ?_;exact GX.mk (zjs _) (LeX.a [(260000,41)]) rfl _ rfl (by repeat' first|exact Sub.nil _|exact Sub.refl _|refine Sub.agg ?_|refine Sub.tup ?_|refine Sub.fn ?_|exact SubL.nil|refine SubL.cons ?_ ?_|refine Sub.sl _ ?_|exact SubE.nil|refine SubE.cons ?_ ?_) [100000] ⟨Or.inr ⟨1,0,_,_,_,_,_,Nat.le_of_ble_eq_true rfl,rfl,rfl,rfl,rfl,rfl⟩,trivial⟩ rfl
  |refine NatX.o hF (fun m hF=>?_)
  |refine EltX.o z09 hF (fun x hF=>?_)
  |refine zak.oM (z6d 28 hF) [(100000,100000)] [(100000,100000)] _ _ zaa zcf [] (fun a h=>ConG.up (zie h)) (z0x Tryz.func194 rfl rfl) rfl rfl rfl ⟨⟨rfl,rfl⟩,trivial⟩ (fun a=>⟨rfl,rfl,rfl,rfl,rfl,rfl,rfl,rfl⟩) (fun a hF=>?_)
  |refine SetX.o z09 hF (fun x=>rfl) (fun x=>(by first|exact SubL.refl _|(repeat' first|exact SubL.nil|refine SubL.cons ?_ ?_|exact Sub.refl _|exact Sub.nil _|refine Sub.agg ?_))) (fun l hF=>?_)
  |exact ⟨_,hF,LeX.a []⟩
  |refine z7z.I hF (LeX.a []) fun m v hF=>?_
  |refine EqX.A ?_
set_option maxHeartbeats 400000 in
theorem ybp (l:List (Cel 4))(S:Nat->Prop)(v:Value)(w:World)(h:Sl w S 4 encC v l)(hl:l.length<=1000000000) :
  Calls Tryz.prog 72 #[v] w (zwe 76 4 encC l w):=by
 have eok:EOk Tryz.prog 42 76 4 32 (encC (n:=4)):=eokC (sz:=4) (zs2 42 _ rfl) rfl (zs2 76 _ rfl) (by omega) rfl
 obtain ⟨A,c,rfl,hc,_⟩:=h.form
 have hq:=fun (W:World)=>Lib.run_eql_slice_nil W 42 76 A l.length c 0 0 Tryz.underlying42
 have H:=hide h
 cases A with
 |none =>
  have h0:l=[]:=h.none_nil
  subst h0
  clear h H hl hc
  simp only [length_nil,Option.isNone_none] at hq ⊢
  go_enter Tryz.func72,Tryz.ntmps72
  go_wp2
  go_ret
  exact ⟨none,0,rfl,Own.nil_,by go_grown⟩
 |some ad =>
  clear h
  go_enter Tryz.func72,Tryz.ntmps72
  go_wp2_with (at_builtin;refine zax rfl _ _ rfl eok rfl Own.made_ rfl (H.out.alloc _) (by simp;omega) (by omega) (by simp) ?_;intro A' c' w1 ho hg _)
  go_ret
  exact ⟨A',c',rfl,ho,(Own.made_ (sz:=4) (enc:=encC (n:=4))).grown ((Below.refl _ _).alloc (Nat.le_refl _) _) (Nat.le_refl _) (by simp) hg⟩
theorem zw9 {n a r}(hF:zay n a=some r):ConT E0 72 [.sl 4 (List.map z0b a)] 76 4 (List.map z0b r) (.row 0):=zjn rfl (z0x Tryz.func72 rfl rfl) ybp hF
theorem ybf {n a r}(hF:zay n a=some r):Con E0 false 72 [.sl 4 (List.map z0b a)] (.sl 4 (List.map z0b r)):=(zw9 hF).close rfl
end
end Go.Proofs.YtidhlpjgifoneaaGreat
