/- What some functions compute, over plain values. -/
import Derived.Test.YtidhlpjgifoneaaGreatK21
import Derived.Test.YtidhlpjgifoneaaGreatK22
set_option linter.unusedVariables false
set_option linter.unusedSimpArgs false
set_option maxRecDepth 100000
set_option maxHeartbeats 8000000
namespace Go.Proofs.YtidhlpjgifoneaaGreat
open Go.RowKit
noncomputable section
def Dm (n:Nat)(b:Ay->(List Bool)->Option ((List Bool)))(a:Ay)(d:(List Bool)->Option ((List Bool))):Nat->Int×(List Bool)->Option ((List Bool)) |0,_=>none |e+1,c=>cnd (decide (c.1<((a.fArgs.map idA).length:Int))) (idxD C1 a.fArgs c.1 fun f=>bndM 43 (b f c.2) fun g=>(Dm n b a d e) ((IntKind.wrap .i64 (c.1+1)),g))<|d c.2
def Ok (n:Nat)(b:Ay->(List Bool)->Option ((List Bool)))(a:Ay)(d:(List Bool)->Option ((List Bool))):Nat->Int×(List Bool)->Option ((List Bool)) |0,_=>none |e+1,c=>cnd (decide (c.1<((a.fArgs.map idA).length:Int))) (idxD C1 a.fArgs c.1 fun f=>bndM 43 (b f c.2) fun g=>(Ok n b a d e) ((IntKind.wrap .i64 (c.1+1)),g))<|d c.2
def Oj (n:Nat)(b:Ay->(List Bool)->Option ((List Bool)))(a:Ay)(d:(List Bool)->Option ((List Bool))):Nat->Int×(List Bool)->Option ((List Bool)) |0,_=>none |e+1,c=>cnd (decide (c.1<((a.fArgs.map idA).length:Int))) (idxD C1 a.fArgs c.1 fun f=>bndM 43 (b f c.2) fun g=>(Oj n b a d e) ((IntKind.wrap .i64 (c.1+1)),g))<|d c.2
def Oi (n:Nat)(b:Ay->(List Bool)->Option ((List Bool)))(a:Ay)(d:(List Bool)->Option ((List Bool))):Nat->Int×(List Bool)->Option ((List Bool)) |0,_=>none |e+1,c=>cnd (decide (c.1<((a.fArgs.map idA).length:Int))) (idxD C1 a.fArgs c.1 fun f=>bndM 43 (b f c.2) fun g=>(Oi n b a d e) ((IntKind.wrap .i64 (c.1+1)),g))<|d c.2
def E2:Nat->Ay->(List Bool)->Option ((List Bool)) |0,_,_=>none |n+1,a,f=>bnd (Qq n a.fOp) fun i=>cnd (i.1) (cnd (decide (0<=a.fVar)) (cnd (decide (a.fVar<((f.map AV.bool).length:Int))) (nat a.fVar (f.map AV.bool).length fun h=>stx f h (fun j=>true) fun g=>Dm n (E2 n) a (fun b=>some b) n (0,g))<|Ok n (E2 n) a (fun c=>some c) n (0,f))<|Oj n (E2 n) a (fun d=>some d) n (0,f))<|Oi n (E2 n) a (fun e=>some e) n (0,f)
def Hp (n:Nat)(a:(List Bool))(c:(List Int)->Option ((List Int))):Nat->Int×(List Int)->Option ((List Int)) |0,_=>none |d+1,b=>cnd (decide (b.1<((a.map AV.bool).length:Int))) (reg<|nat b.1 (a.map AV.bool).length fun e=>elt a e fun f=>cnd (f) (app b.2 [b.1] 8 fun g=>(Hp n a c d) ((IntKind.wrap .i64 (b.1+1)),g))<|(Hp n a c d) ((IntKind.wrap .i64 (b.1+1)),b.2))<|c b.2
def T4 (n:Nat)(d:Ay):Option ((List Int)):=mak 16 1 (false:Bool) fun c=>bndM 9 (E2 n d c) fun a=>Hp n a (fun b=>some b) n (0,[])
def Od (n:Nat)(a:(List Int))(c:(List Bool)->Option ((List Bool))):Nat->Int×(List Bool)->Option ((List Bool)) |0,_=>none |d+1,b=>cnd (decide (b.1<((a.map aI).length:Int))) (idx a b.1 fun e=>nat e (b.2.map AV.bool).length fun f=>stx b.2 f (fun h=>true) fun g=>(Od n a c d) ((IntKind.wrap .i64 (b.1+1)),g))<|c b.2
def L2 (n:Nat)(d:Ay)(c:(List Bool)):Option ((List Bool)):=bnd (T4 n d) fun a=>Od n a (fun b=>some b) n (0,c)
def Px (n:Nat)(b:(List B4)×Int×(List Bool))(d:(List Bool)->Option ((List Bool))):Nat->Int×(List Bool)->Option ((List Bool)) |0,_=>none |e+1,c=>idx b.1 b.2.1 fun f=>cnd (decide (c.1<((f.fChecks.map idA).length:Int))) (idx b.1 b.2.1 fun g=>idxD C1 g.fChecks c.1 fun h=>bndM 66 (L2 n h c.2) fun j=>(Px n b d e) ((IntKind.wrap .i64 (c.1+1)),j))<|d c.2
def Gv (n:Nat)(c:(List Bool)->Option ((List Bool))):Nat->(List B4)×Int×(List Bool)->Option ((List Bool)) |0,_=>none |e+1,b=>cnd (decide (b.2.1<((b.1.map B5).length:Int))) (idx b.1 b.2.1 fun f=>bndM 46 (L2 n f.fCond b.2.2) fun g=>Px n b (fun d=>(Gv n c e) (b.1,(IntKind.wrap .i64 (b.2.1+1)),d)) n (0,g))<|c b.2.2
def L1 (n:Nat)(g:Int)(h:Ak)(a:F6)(c:(List Bool)->Option ((List Bool))):Nat->Int×(List Bool)->Option ((List Bool)) |0,_=>none |d+1,b=>cnd (decide (b.1<((a.fGuards.map Bc).length:Int))) (idx a.fGuards b.1 fun e=>bndM 30 (L2 n e.fCond b.2) fun f=>(L1 n g h a c d) ((IntKind.wrap .i64 (b.1+1)),f))<|c b.2
def Ub (n:Nat)(e:Ak)(a:Int):Option ((List Bool)):=mak 16 1 (false:Bool) fun g=>idx e.fStates a fun f=>L1 n a e f (fun b=>bnd (Ir n e a) fun d=>Gv n (fun c=>some c) n (d,0,b)) n (0,g)
def Hw (n:Nat)(a:Ak)(c:Nat)(w:Int×(Ars (List Bool)))(y:Int×(Ars (List Bool)))(d:B4)(b:Int×(Ars (List Bool)))(g:(Ars (List Bool))->Option ((List (List Bool))))(f:(Int×(Ars (List Bool)))->Option ((List (List Bool))))(k:Bool):Option ((List (List Bool))):=cnd (k) (reg<|ncx d.fFrom c<|aob b.2 (Int.toNat d.fFrom) fun e=>ncx d.fFrom c<|aob b.2 (Int.toNat d.fFrom) fun h=>aix b.2 h b.1 fun l=>ald b.2 h l fun o=>cnd (o) (aix b.2 e b.1 fun p=>asr b.2 e p true fun q=>f ((IntKind.wrap .i64 (b.1+1)),q))<|ncx d.fTo c<|aob b.2 (Int.toNat d.fTo) fun j=>aix b.2 j b.1 fun s=>ald b.2 j s fun t=>aix b.2 e b.1 fun u=>asr b.2 e u t fun v=>f ((IntKind.wrap .i64 (b.1+1)),v))<|g b.2
def Ee (n:Nat)(a:Ak)(b:Nat)(e:Int×(Ars (List Bool)))(f:Int×(Ars (List Bool)))(d:B4)(c:(Ars (List Bool))->Option ((List (List Bool)))):Nat->Int×(Ars (List Bool))->Option ((List (List Bool))) |0,_=>none |g+1,h=>jon (Hw n a b e f d h c (Ee n a b e f d c g))<|reg<|cnd (decide (0<=d.fTo)) (Hw n a b e f d h c (Ee n a b e f d c g) (decide (h.1<16)))<|Hw n a b e f d h c (Ee n a b e f d c g) false
def Gh (n:Nat)(a:Ak)(c:Nat)(f:Int×(Ars (List Bool)))(d:(Ars (List Bool))->Option ((List (List Bool)))):Nat->Int×(Ars (List Bool))->Option ((List (List Bool))) |0,_=>none |g+1,b=>cnd (decide (b.1<((a.fEdges.map B5).length:Int))) (idx a.fEdges b.1 fun h=>Ee n a c f b h (fun e=>(Gh n a c f d g) ((IntKind.wrap .i64 (b.1+1)),e)) n (0,b.2))<|d b.2
def I1 (n:Nat)(a:Ak)(b:Nat)(d:(Ars (List Bool))->Option ((List (List Bool)))):Nat->Int×(Ars (List Bool))->Option ((List (List Bool))) |0,_=>none |f+1,c=>cnd (decide (c.1<((a.fStates.map Bb).length:Int))) (Gh n a b c (fun e=>(I1 n a b d f) ((IntKind.wrap .i64 (c.1+1)),e)) n (0,c.2))<|d c.2
def Oz (n:Nat)(a:Ak)(c:Nat->(Ars (List Bool))->Option ((List (List Bool)))):Nat->Nat×Int×(Ars (List Bool))->Option ((List (List Bool))) |0,_=>none |d+1,b=>cnd (decide (b.2.1<((a.fStates.map Bb).length:Int))) (bndR (Ub n a b.2.1) fun e=>aap b.2.2 e 24 fun f=>(Oz n a c d) (b.1+1,(IntKind.wrap .i64 (b.2.1+1)),f))<|c b.1 b.2.2
def Ln (n:Nat)(a:Ak):Option ((List (List Bool))):=arz 7003<|reg<|Oz n a (fun c d=>I1 n a c (fun b=>frq 7003 b<|reg<|some (aval b)) n (0,d)) n (0,0,([],[]))
def Lm (n:Nat)(h:Int)(a:A0)(c:(List Bg)->Option ((List Bg))):Nat->Int×(List Bg)->Option ((List Bg)) |0,_=>none |d+1,b=>cnd (decide (b.1<((a.fBindings.map Aq).length:Int))) (reg<|idx a.fBindings b.1 fun f=>cnd (decide (f.fVar=h)) (idx a.fBindings b.1 fun e=>app b.2 ([⟨e.fRef.fTime,e.fRef.fSource,e.fRef.fSeq⟩]) 24 fun g=>(Lm n h a c d) ((IntKind.wrap .i64 (b.1+1)),g))<|(Lm n h a c d) ((IntKind.wrap .i64 (b.1+1)),b.2))<|c b.2
def R4 (n:Nat)(c:A0)(a:Int):Option ((List Bg)):=Lm n a c (fun b=>some b) n (0,[])
def Oy (n:Nat)(a:(List Bg))(g:(List Bg))(c:Option (Bool)):Nat->Int->Option (Bool) |0,_=>none |f+1,b=>cnd (decide (b<((a.map Bf).length:Int))) (idx a b fun d=>idx g b fun e=>cnd (!(decide (d.fTime=e.fTime) && (decide (d.fSource=e.fSource) && (decide (d.fSeq=e.fSeq) && true)))) (some false)<|(Oy n a g c f) (IntKind.wrap .i64 (b+1)))<|c
def Tv (n:Nat)(e:A0)(d:A0)(c:Int):Option (Bool):=bnd (R4 n e c) fun b=>bnd (R4 n d c) fun a=>cnd (!decide (((b.map Bf).length:Int)=((a.map Bf).length:Int))) (some false)<|Oy n b a (some true) n 0
def Jw (n:Nat)(a:A0)(e:A0)(f:(List (List Bool)))(c:Int)(b:Int->Option (Bool))(d:Bool):Option (Bool):=cnd (d) (some false)<|b (IntKind.wrap .i64 (c+1))
def Ge (n:Nat)(h:A0)(a:A0)(i:(List (List Bool)))(b:Option (Bool)):Nat->Int->Option (Bool) |0,_=>none |d+1,c=>cnd (decide (c<16)) (jon (Jw n h a i c (Ge n h a i b d))<|reg<|idx i a.fState fun e=>idx e c fun f=>cnd (f) (bnd (Tv n a h c) fun g=>Jw n h a i c (Ge n h a i b d) !(g))<|Jw n h a i c (Ge n h a i b d) false)<|b
def Jv (n:Nat)(a:A0)(e:A0)(f:(List (List Bool)))(c:Int)(b:Int->Option (Bool))(d:Bool):Option (Bool):=cnd (d) (some false)<|b (IntKind.wrap .i64 (c+1))
def Hx (n:Nat)(i:A0)(a:A0)(j:(List (List Bool)))(c:Option (Bool)):Nat->Int->Option (Bool) |0,_=>none |d+1,b=>cnd (decide (b<((a.fStarts.map Ae).length:Int))) (jon (Jv n i a j b (Hx n i a j c d))<|reg<|idx a.fStarts b fun e=>idx i.fStarts b fun f=>cnd (!decide (e.fScope=f.fScope)) (Jv n i a j b (Hx n i a j c d) true)<|idx a.fStarts b fun g=>idx i.fStarts b fun h=>Jv n i a j b (Hx n i a j c d) (decide (g.fTime<h.fTime)))<|c
def Jx (n:Nat)(a:A0)(c:A0)(d:(List (List Bool)))(b:Bool):Option (Bool):=cnd (b) (some false)<|Hx n a c d (Ge n a c d (some true) n 0) n 0
def Py (n:Nat)(c:(List (List Bool)))(b:A0)(a:A0):Option (Bool):=jon (Jx n a b c)<|reg<|cnd (!decide (b.fState=a.fState)) (Jx n a b c true)<|Jx n a b c (!decide (((b.fStarts.map Ae).length:Int)=((a.fStarts.map Ae).length:Int)))
def Fk (n:Nat)(a:(List A0))(i:(List (List Bool)))(d:Int×(List A0))(c:Bool->Option ((List A0))):Nat->Bool×Int->Option ((List A0)) |0,_=>none |e+1,b=>cnd (decide (b.2<((a.map A4).length:Int))) (reg<|cnd (!decide (b.2=d.1)) (idx a b.2 fun f=>idx a d.1 fun g=>bnd (Py n i f g) fun h=>cnd (h) (cnd (decide (b.2<d.1)) ((Fk n a i d c e) (false,(IntKind.wrap .i64 (b.2+1))))<|idx a d.1 fun j=>idx a b.2 fun k=>bnd (Py n i j k) fun l=>cnd (!(l)) ((Fk n a i d c e) (false,(IntKind.wrap .i64 (b.2+1))))<|(Fk n a i d c e) (b.1,(IntKind.wrap .i64 (b.2+1))))<|(Fk n a i d c e) (b.1,(IntKind.wrap .i64 (b.2+1))))<|(Fk n a i d c e) (b.1,(IntKind.wrap .i64 (b.2+1))))<|c b.1
def Gc (n:Nat)(a:(List A0))(h:(List (List Bool)))(c:(List A0)->Option ((List A0))):Nat->Int×(List A0)->Option ((List A0)) |0,_=>none |d+1,b=>cnd (decide (b.1<((a.map A4).length:Int))) (Fk n a h b (fun e=>reg<|cnd (e) (idx a b.1 fun f=>app b.2 [f] 56 fun g=>(Gc n a h c d) ((IntKind.wrap .i64 (b.1+1)),g))<|(Gc n a h c d) ((IntKind.wrap .i64 (b.1+1)),b.2)) n (true,0))<|c b.2
def L3 (n:Nat)(c:(List (List Bool)))(a:(List A0)):Option ((List A0)):=Gc n a c (fun b=>some b) n (0,[])
def I4 (n:Nat)(g:Bool)(h:(List A8))(i:Ak)(a:(List (List Bool)))(b:Int×(List (List A0)))(c:(Int×(List (List A0)))->Option ((List (List A0))×Int))(d:(List A0)):Option ((List (List A0))×Int):=bldS ([d]:List (List A0)) fun e=>app b.2 e 24 fun f=>c ((IntKind.wrap .i64 (b.1+1)),f)
def Kk (n:Nat)(g:Bool)(h:(List A8))(i:Ak)(a:(List (List Bool)))(c:Int×(List (List A0)))(b:(Int×(List (List A0)))->Option ((List (List A0))×Int))(d:(List A0)×(List Ab))(e:Bool):Option ((List (List A0))×Int):=cnd (e) (some ([],17))<|cnd (decide (0<((d.2.map Ap).length:Int))) (some ([],22))<|jon (I4 n g h i a c b)<|reg<|cnd (g) (bnd (L3 n a d.1) fun f=>I4 n g h i a c b f)<|I4 n g h i a c b d.1
def Gr (n:Nat)(k:Bool)(a:(List A8))(i:Ak)(j:(List (List Bool)))(c:(List (List A0))->Option ((List (List A0))×Int)):Nat->Int×(List (List A0))->Option ((List (List A0))×Int) |0,_=>none |d+1,b=>cnd (decide (b.1<((a.map A7).length:Int))) (nat b.1 (List.map (fun q=>AV.sl 3 (List.map A4 q)) (b.2)).length fun f=>elt b.2 f fun g=>idx a b.1 fun h=>bnd (M1 n i a g h) fun e=>jon (Kk n k a i j b (Gr n k a i j c d) e)<|reg<|cnd (decide (4096<((e.1.map A4).length:Int))) (Kk n k a i j b (Gr n k a i j c d) e true)<|Kk n k a i j b (Gr n k a i j c d) e (decide (4096<((e.2.map Ap).length:Int))))<|c b.2
def U2 (n:Nat)(a:Ak)(h:(List A8))(g:Bool):Option ((List (List A0))×Int):=bnd (Ln n a) fun f=>bnd (Qd n) fun e=>bldS ([e]:List A0) fun d=>bld ([d]:List (List A0)) fun c=>Gr n g h a f (fun b=>some (b,0)) n (0,c)
def Xq (n:Nat)(d:Ak)(c:(List A8)):Option ((List A0)×(List Ab)×Int):=bnd (Eg n d c) fun b=>cnd (!decide (b=0)) (some ([],[],b))<|bnd (L4 n d c 4096) fun a=>cnd (!(a.2.2)) (some ([],[],17))<|some (a.1,a.2.1,0)
def Td (n:Nat)(c:Ak)(b:(List A8)):Option ((List Ab)×Int):=bnd (Xq n c b) fun a=>some (a.2.1,a.2.2)
def Ib (n:Nat)(c:Ak)(b:(List A8)):Option (Int×Ab×C7×Int):=bnd (E3 n c b) fun d=>cnd (!decide (d=0)) (some (0,⟨[]⟩,⟨[]⟩,d))<|bnd (Td n c b) fun a=>cnd (!decide (a.2=0)) (some (0,⟨[]⟩,⟨[]⟩,0))<|cnd (decide (0<((a.1.map Ap).length:Int))) (idx a.1 0 fun f=>some (1,⟨f.fBindings⟩,⟨[]⟩,0))<|bnd (U2 n c b true) fun e=>some (2,⟨[]⟩,⟨e.1⟩,0)
def Dc (n:Nat)(b:Bool):Option (Bool):=some b
def Wp (n:Nat)(f:Ak)(e:(List A8)):Option (Bool):=bnd (Lo n f e) fun i=>cnd (!(i)) (bnd (Lr n) fun h=>some h)<|bnd (Eh n f e) fun d=>bnd (Ib n f e) fun a=>jon (Dc n)<|reg<|cnd (decide (d.1=a.1)) (bnd (Fu n (⟨d.2.1.fBindings⟩:Ab) (⟨a.2.1.fBindings⟩:Ab)) fun g=>cnd (decide (g=0)) (bnd (Iq n d.2.2.1 a.2.2.1) fun b=>cnd (b) (cnd (decide (d.2.2.2=a.2.2.2)) (bnd (Lr n) fun c=>Dc n c)<|Dc n false)<|Dc n false)<|Dc n false)<|Dc n false
attribute [irreducible] Hw Jw Jv Jx I4 Kk          Dc  
end
noncomputable section
abbrev z4j {n b a g c d e}:=jf (Kd n b a g c d e) (fun f=>⟨[(1,aI a),(2,.ptr 2 0),(5,aI c.1),(6,aI c.2),(16,.bool (f))],[(2,.box 111 (Cm g))]⟩) fun _=>Kd.eq_1 ..
abbrev z4i {n b a e c}:=li (I2 n b a e c) (fun d=>⟨[(1,aI a),(2,.ptr 2 0),(5,aI d.1),(6,aI d.2)],[(2,.box 111 (Cm e))]⟩) fun _ _=>I2.eq_2 ..
abbrev z4h {n b a c}:=li (P7 n b a c) (fun d=>⟨[(1,.ptr 1 0),(3,aI d.1),(4,aI d.2)],[(1,.box 111 (Cm a))]⟩) fun _ _=>P7.eq_2 ..
abbrev z4c {n}:=jt (Ef n) (fun b=>⟨[(12,.bool (b))],[]⟩) fun _=>Ef.eq_1 ..
abbrev z4d {n a}:=jt (Fp n a) (fun b=>⟨[(3,aI a),(4,.bool (b))],[]⟩) fun _=>Fp.eq_1 ..
abbrev z5r {n b}:=jf (I5 n b) (fun c=>⟨[(2,.bool (c)),(3,.bool (b))],[]⟩) fun _=>I5.eq_1 ..
abbrev z5s {n a}:=jf (Kr n a) (fun b=>⟨[(0,aI a),(4,.bool (b))],[]⟩) fun _=>Kr.eq_1 ..
abbrev z4k {n}:=jf (Gk n) (fun b=>⟨[(4,.bool (b))],[]⟩) fun _=>Gk.eq_1 ..
abbrev z5u {n}:=jf (C9 n) (fun b=>⟨[(130,.bool (b))],[]⟩) fun _=>C9.eq_1 ..
abbrev z5v {n d a b}:=jf (Gs n d a b) (fun c=>⟨[(1,.ptr 1 0),(4,.bool (a.1)),(5,.bool (a.2)),(6,.bool (decide (d.fOp=4))),(7,.bool (b)),(95,.bool (c))],[(1,.box 111 (Cm d))]⟩) fun _=>Gs.eq_1 ..
abbrev z5w {n c a b}:=jt (Ks n c a b) (fun _=>⟨[(1,.ptr 1 0),(4,.bool (a.1)),(5,.bool (a.2)),(6,.bool (decide (c.fOp=4))),(7,.bool (b))],[(1,.box 111 (Cm c))]⟩) fun _=>Ks.eq_1 ..
abbrev z5x {n c a}:=jf (Kt n c a) (fun b=>⟨[(1,.ptr 1 0),(4,.bool (a.1)),(5,.bool (a.2)),(6,.bool (decide (c.fOp=4))),(7,.bool (b))],[(1,.box 111 (Cm c))]⟩) fun _=>Kt.eq_1 ..
abbrev z5y {n c a}:=jf (I6 n c a) (fun b=>⟨[(1,.ptr 1 0),(4,.bool (a.1)),(5,.bool (a.2)),(6,.bool (decide (c.fOp=4))),(62,.bool (b))],[(1,.box 111 (Cm c))]⟩) fun _=>I6.eq_1 ..
abbrev z5z {n c a}:=jf (E1 n c a) (fun b=>⟨[(1,.ptr 1 0),(4,.bool (a.1)),(5,.bool (a.2)),(48,.bool (b))],[(1,.box 111 (Cm c))]⟩) fun _=>E1.eq_1 ..
abbrev z4b {n b a c}:=li (P6 n b a c) (fun d=>⟨[(1,.ptr 1 0),(4,aI d)],[(1,.box 111 (Cm a))]⟩) fun _ _=>P6.eq_2 ..
attribute [instance] z4j z4i z4h z4c z4d z5r z5s z4k z5u z5v z5w z5x z5y z5z z4b
def z91 (r:Int):AV:=aI (r)
theorem z3r {n d c r}(b:Fy n d c=some r):Con E0 true 95 [Ar d,aI c] (aI r):=by
 induction n generalizing d c r
 case zero=>cases b
 case succ n e =>
 unfold Fy at b;refine cw Tryz.func95 ?_;repeat' first
  |refine AW.jI b (fun v b=>?_) fun b=>?_
  |refine AW.regO b fun b=>?_
  |refine AW.stepU [3] ?_;conv=>whnf
  |refine A9.o b (fun b=>?_) fun b=>?_
  |refine IdxX.oD b D6 (fun x b=>?_)
  |refine Ad.o b z91 (fun a h=>e h) (fun a b=>?_)
  |exact ⟨_,b,LeX.a []⟩
  |refine Ax.I b (LeX.a []) fun m v b=>?_
  |exact RetX.oB b
instance zia {n b a}:CI E0 (Fy n b a) true 95 [Ar b,aI a] aI:=⟨z3r⟩
def z90 (r:Int):AV:=aI (r)
theorem z3q {n c r}(b:Fx n c=some r):Con E0 true 96 [Ar c] (aI r):=by
 induction n generalizing c r
 case zero=>cases b
 case succ n d =>
 unfold Fx at b;refine cw Tryz.func96 ?_;repeat' first
  |refine AW.step ?_;conv=>whnf
  |refine A9.o b (fun b=>?_) fun b=>?_
  |refine IdxX.oD b D6 (fun x b=>?_)
  |refine Ad.o b z90 (fun a h=>d h) (fun a b=>?_)
  |exact ⟨_,b,LeX.a []⟩
  |refine Ax.I b (LeX.a []) fun m v b=>?_
  |exact RetX.oB b
instance zi9 {n a}:CI E0 (Fx n a) true 96 [Ar a] aI:=⟨z3q⟩
instance zi6 {n a}:CI E0 (Tz n a) true 235 [aI a] aI:=by unfold Tz;exact CI.w [2,3,4,5,10,11,12,13,14,15] Tryz.func235
instance zjb {n a}:CI E0 (Qq n a) true 234 [aI a] (fun r=>.tup [.bool (r.1),.bool (r.2)]):=by unfold Qq;exact CI.w [1,2] Tryz.func234
instance zih {n a}:CI E0 (Gy n a) true 236 [Af a] aI:=by unfold Gy;exact CI.w [] Tryz.func236
instance zid {n b a}:CI E0 (Lq n b a) true 237 [aI b,Af a] (fun r=>.bool (r)):=by unfold Lq;exact CI.w [1] Tryz.func237
instance zjd {n c}:CI E0 (U6 n c) true 209 [Ar c] aI:=⟨fun {r} b=>by
 unfold U6 at b;refine cw Tryz.func209 ?_;repeat' first
  |refine AW.jI b (fun v b=>?_) fun b=>?_
  |refine AW.jI2 b (fun v b=>?_) fun b=>?_
  |refine AW.regO b fun b=>?_
  |refine AW.stepU [7,10,12,13,17,19] ?_;conv=>whnf
  |refine A9.o b (fun b=>?_) fun b=>?_
  |refine A9.t ?_
  |refine A9.f ?_
  |refine Ad.I b fun a b=>?_
  |exact ⟨_,b,LeX.a []⟩
  |exact ⟨(),b,LeX.a []⟩
  |refine EqX.A ?_
  |exact RetX.oB b⟩
def z8z (r:Int):AV:=aI (r)
theorem z3p {n c r}(b:Gx n c=some r):Con E0 true 179 [Ar c] (aI r):=by
 induction n generalizing c r
 case zero=>cases b
 case succ n d =>
 unfold Gx at b;refine cw Tryz.func179 ?_;repeat' first
  |refine AW.step ?_;conv=>whnf
  |refine A9.o b (fun b=>?_) fun b=>?_
  |refine Ad.I b fun a b=>?_
  |refine IdxX.oD b D6 (fun x b=>?_)
  |refine Ad.o b z8z (fun a h=>d h) (fun a b=>?_)
  |exact ⟨_,b,LeX.a []⟩
  |refine Ax.I b (LeX.a []) fun m v b=>?_
  |exact RetX.oB b
instance zi5 {n a}:CI E0 (Gx n a) true 179 [Ar a] aI:=⟨z3p⟩
end
noncomputable section
abbrev z71 {n}:=jf (L8 n) (fun b=>⟨[(4,.bool (b))],[]⟩) fun _=>L8.eq_1 ..
abbrev z34 {n a e b c}:=li (Oh n a e b c) (fun d=>⟨[(1,.sl 11 (a.map Bc)),(2,.ptr 2 0),(5,aI b),(6,aI d)],[(2,.box 25 (Ba e))]⟩) fun _ _=>Oh.eq_2 ..
abbrev z36 {n a e b c}:=jf (I0 n a e b c) (fun d=>⟨[(1,.sl 11 (a.map Bc)),(2,.ptr 2 0),(5,aI b),(44,.bool (d))],[(2,.box 25 (Ba e))]⟩) fun _=>I0.eq_1 ..
abbrev z35 {n a d b}:=li (Fl n a d b) (fun c=>⟨[(1,.sl 11 (a.map Bc)),(2,.ptr 2 0),(5,aI c)],[(2,.box 25 (Ba d))]⟩) fun _ _=>Fl.eq_2 ..
abbrev z32 {n a e b c}:=li (Og n a e b c) (fun d=>⟨[(0,.sl 1 (e.map aI)),(1,aI a),(5,aI b),(6,aI d)],[]⟩) fun _ _=>Og.eq_2 ..
abbrev z33 {n a d b}:=li (K1 n a d b) (fun c=>⟨[(0,.sl 1 (d.map aI)),(1,aI a),(5,aI c)],[]⟩) fun _ _=>K1.eq_2 ..
abbrev z40 {n a b}:=li (K9 n a b) (fun c=>⟨[(3,.ptr 3 0),(10,aI c)],[(3,.box 115 (C6 a))]⟩) fun _ _=>K9.eq_2 ..
abbrev z41 {n a e b c}:=li (Gi n a e b c) (fun d=>⟨[(2,.ptr 2 0),(3,.ptr 3 0),(7,.sl 1 [.sl 1 (a.fOpens.map aI),.sl 1 (a.fCloses.map aI),.sl 1 (a.fInside.map aI),.sl 1 (b.map aI)]),(8,aI d)],[(2,.box 25 (Ba e)),(3,.box 115 (C6 a))]⟩) fun _ _=>Gi.eq_2 ..
abbrev z42 {n a d b}:=li (P2 n a d b) (fun c=>⟨[(2,.ptr 2 0),(3,.ptr 3 0),(5,.row 7026),(6,aI c.1)],[(2,.box 25 (Ba d)),(3,.box 115 (C6 a)),(7026,.row 3 1 (c.2.map aI))]⟩) fun _ _=>P2.eq_2 ..
abbrev z5k {n a d b}:=li (Po n a d b) (fun c=>⟨[(3,.ptr 3 0),(4,.ptr 4 0),(9,aI c)],[(3,.box 25 (Ba d)),(4,.box 115 (C6 a))]⟩) fun _ _=>Po.eq_2 ..
abbrev z5l {n a c d}:=jf (Dn n a c d) (fun b=>⟨[(2,aI a),(3,.ptr 3 0),(4,.ptr 4 0),(42,.bool (b))],[(3,.box 25 (Ba d)),(4,.box 115 (C6 c))]⟩) fun _=>Dn.eq_1 ..
abbrev z43 {n a b}:=li (P3 n a b) (fun c=>⟨[(1,.ptr 1 0),(5,aI c.1),(6,aI c.2)],[(1,.box 25 (Ba a))]⟩) fun _ _=>P3.eq_2 ..
abbrev z44 {n a b}:=li (P4 n a b) (fun c=>⟨[(1,.ptr 1 0),(3,aI c)],[(1,.box 25 (Ba a))]⟩) fun _ _=>P4.eq_2 ..
abbrev z47 {n a}:=jf (Fn n a) (fun b=>⟨[(1,.ptr 1 0),(31,.bool (b))],[(1,.box 25 (Ba a))]⟩) fun _=>Fn.eq_1 ..
abbrev z48 {n a}:=jf (Gj n a) (fun b=>⟨[(1,.ptr 1 0),(15,.bool (b))],[(1,.box 25 (Ba a))]⟩) fun _=>Gj.eq_1 ..
attribute [instance] z71 z34 z36 z35 z32 z33 z40 z41 z42 z5k z5l z43 z44 z47 z48
instance zib {n a}:CI E0 (Fz n a) true 138 [Ar a] aI:=by unfold Fz;exact CI.w [] Tryz.func138
instance zm0 {n b a}:CI E0 (D5 n b a) true 97 [aI b,aI a] (fun r=>.bool (r)):=by unfold D5;exact CI.w [1] Tryz.func97
instance zgu {n b a}:CI E0 (Tl n b a) true 98 [Bm b,.sl 11 (a.map Bc)] aI:=by unfold Tl;exact CI.w [6] Tryz.func98
instance zgt {n b a}:CI E0 (Q4 n b a) true 180 [.sl 1 (b.map aI),aI a] aI:=by unfold Q4;exact CI.w [] Tryz.func180
instance zi0 {n d c}:CI E0 (Qe n d c) true 139 [Bm d,B5 c] aI:=⟨fun {r} b=>by
 unfold Qe at b;refine cw Tryz.func139 ?_;repeat' first
  |refine AW.regO b fun b=>?_
  |refine AW.frzO b 7026 rfl (fun b=>?_)
  |refine AW.stepU [6] ?_;conv=>whnf
  |refine A9.o b (fun b=>?_) fun b=>?_
  |refine IdxX.A b fun x b=>?_
  |refine Ad.I b fun a b=>?_
  |exact ⟨_,b,LeX.a []⟩
  |refine Ax.I b ?_ fun m v b=>?_
  |exact LeX.a []
  |refine IdxX.o (fun q=>AV.sl 1 (List.map aI q)) b fun x b=>?_
  |refine AppX.oA b fun l b=>?_
  |exact ⟨_,b,LeX.a [(7026,26)]⟩
  |exact LeX.trans (LeX.adopt 5 7026 3 1 rfl rfl) (LeX.a [])
  |refine AndA ?_
  |exact RetX.oB b⟩
instance zj9 {n e d c}:CI E0 (U5 n e d c) true 99 [Bm e,B5 d,aI c] aI:=⟨fun {r} b=>by
 unfold U5 at b;refine cw Tryz.func99 ?_;repeat' first
  |refine AW.jI b (fun v b=>?_) fun b=>?_
  |refine AW.regO b fun b=>?_
  |refine AW.stepU [2] ?_;conv=>whnf
  |refine A9.o b (fun b=>?_) fun b=>?_
  |refine A9.t ?_
  |refine A9.f ?_
  |refine Ad.I b fun a b=>?_
  |refine IdxX.oD b D6 (fun x b=>?_)
  |exact ⟨_,b,LeX.a []⟩
  |refine Ax.I b (LeX.a []) fun m v b=>?_
  |exact RetX.oB b⟩
end
noncomputable section
abbrev zf2 {n b a d}:=li (Rr n b a d) (fun c=>⟨[(4,aI c.1),(5,aI c.2.1),(11,.sl 8 (a.fArgs.map idA)),(12,aI (((a.fArgs.map idA).length:Int))),(13,aI c.2.2)],[]⟩) fun _ _=>Rr.eq_2 ..
abbrev zdq {n a}:=jf (Ml n a) (fun b=>⟨[(0,aI a),(4,.bool (b))],[]⟩) fun _=>Ml.eq_1 ..
abbrev zev {n}:=jt (Mo n) (fun b=>⟨[(8,.bool (b))],[]⟩) fun _=>Mo.eq_1 ..
abbrev zew {n a}:=jt (Mq n a) (fun b=>⟨[(4,aI a),(5,.bool (b))],[]⟩) fun _=>Mq.eq_1 ..
abbrev zdp {n}:=jf (J1 n) (fun b=>⟨[(4,.bool (b))],[]⟩) fun _=>J1.eq_1 ..
abbrev za6 {n}:=jf (H5 n) (fun b=>⟨[(31,.bool (b))],[]⟩) fun _=>H5.eq_1 ..
abbrev zex {n}:=jf (Ca n) (fun b=>⟨[(113,.bool (b))],[]⟩) fun _=>Ca.eq_1 ..
abbrev zey {n c a b}:=jt (Mr n c a b) (fun _=>⟨[(1,.ptr 1 0),(5,.bool (a.1)),(6,.bool (a.2)),(7,.bool (decide (c.fOp=4))),(8,.bool (b))],[(1,.box 111 (Cm c))]⟩) fun _=>Mr.eq_1 ..
abbrev zez {n c a}:=jf (Ms n c a) (fun b=>⟨[(1,.ptr 1 0),(5,.bool (a.1)),(6,.bool (a.2)),(7,.bool (decide (c.fOp=4))),(8,.bool (b))],[(1,.box 111 (Cm c))]⟩) fun _=>Ms.eq_1 ..
abbrev zf0 {n c a}:=jf (J2 n c a) (fun b=>⟨[(1,.ptr 1 0),(5,.bool (a.1)),(6,.bool (a.2)),(7,.bool (decide (c.fOp=4))),(66,.bool (b))],[(1,.box 111 (Cm c))]⟩) fun _=>J2.eq_1 ..
abbrev zf1 {n c a}:=jf (E6 n c a) (fun b=>⟨[(1,.ptr 1 0),(5,.bool (a.1)),(6,.bool (a.2)),(52,.bool (b))],[(1,.box 111 (Cm c))]⟩) fun _=>E6.eq_1 ..
abbrev zdo {n b a c}:=li (Rm n b a c) (fun d=>⟨[(1,.fn 183 []),(16,.sl 8 (a.fArgs.map idA)),(17,aI (((a.fArgs.map idA).length:Int))),(18,aI d)],[]⟩) fun _ _=>Rm.eq_2 ..
abbrev z8i {n}:=jf (Ls n) (fun b=>⟨[(4,.bool (b))],[]⟩) fun _=>Ls.eq_1 ..
attribute [instance] zf2 zdq zev zew zdp za6 zex zey zez zf0 zf1 zdo z8i
instance zi1 {n a}:CI E0 (Il n a) true 63 [Bm a] aI:=by unfold Il;exact CI.w [1,3] Tryz.func63
def zpu (r:Int×Int):AV:=.tup [aI (r.1),aI (r.2)]
theorem ze1 {n c r}(b:Hd n c=some r):Con E0 true 182 [Ar c] (.tup [aI r.1,aI r.2]):=by
 induction n generalizing c r
 case zero=>cases b
 case succ n d =>
 unfold Hd at b;refine cw Tryz.func182 ?_;repeat' first
  |refine AW.step ?_;conv=>whnf
  |refine A9.o b (fun b=>?_) fun b=>?_
  |refine IdxX.oD b D6 (fun x b=>?_)
  |refine Ad.o b zpu (fun a h=>d h) (fun a b=>?_)
  |exact ⟨_,b,LeX.a []⟩
  |refine Ax.I b (LeX.a []) fun m v b=>?_
  |exact RetX.oB b
instance zzi {n a}:CI E0 (Hd n a) true 182 [Ar a] (fun r=>.tup [aI r.1,aI r.2]):=⟨ze1⟩
instance zxm {n a}:CI E0 (Vt n a) true 210 [aI a] (fun r=>.tup [aI r.1,.bool (r.2)]):=by unfold Vt;exact CI.w [1] Tryz.func210
instance zzf {n a}:CI E0 (Rv n a) true 153 [aI a] (fun r=>.tup [.bool (r.1),.bool (r.2)]):=by unfold Rv;exact CI.w [2,5] Tryz.func153
instance zxc {n a}:CI E0 (Mu n a) true 252 [Af a] aI:=by unfold Mu;exact CI.w [] Tryz.func252
instance zwe {n a}:CI E0 (H8 n a) true 238 [Af a] aI:=by unfold H8;exact CI.w [] Tryz.func238
instance zxk {n b a}:CI E0 (Vs n b a) true 239 [aI b,Af a] (fun r=>.bool (r)):=by unfold Vs;exact CI.w [1] Tryz.func239
instance zrm {n a}:CI E0 (V8 n a) true 211 [Ar a] aI:=by unfold V8;exact CI.w [4] Tryz.func211
instance zzg {n c}:CI E0 (Vx n c) true 183 [Ar c] aI:=⟨fun {r} b=>by
 unfold Vx at b;refine cw Tryz.func183 ?_;repeat' first
  |refine AW.jI b (fun v b=>?_) fun b=>?_
  |refine AW.jI2 b (fun v b=>?_) fun b=>?_
  |refine AW.regO b fun b=>?_
  |refine AW.stepU [7,10,12,13,17] ?_;conv=>whnf
  |refine A9.o b (fun b=>?_) fun b=>?_
  |refine A9.t ?_
  |refine A9.f ?_
  |refine Ad.I b fun a b=>?_
  |exact ⟨_,b,LeX.a []⟩
  |exact ⟨(),b,LeX.a []⟩
  |refine EqX.A ?_
  |exact RetX.oB b⟩
def zn1 (r:Int):AV:=aI (r)
theorem zc5 {n c r}(b:Ha n c=some r):Con E0 true 151 [Ar c,.fn 183 []] (aI r):=by
 induction n generalizing c r
 case zero=>cases b
 case succ n d =>
 unfold Ha at b;refine cw Tryz.func151 ?_;repeat' first
  |refine AW.step ?_;conv=>whnf
  |refine A9.o b (fun b=>?_) fun b=>?_
  |refine Ad.I b fun a b=>?_
  |refine IdxX.oD b D6 (fun x b=>?_)
  |refine Ad.o b zn1 (fun a h=>d h) (fun a b=>?_)
  |exact ⟨_,b,LeX.a []⟩
  |refine Ax.I b (LeX.a []) fun m v b=>?_
  |exact RetX.oB b
instance zxj {n a}:CI E0 (Ha n a) true 151 [Ar a,.fn 183 []] aI:=⟨zc5⟩
instance zxn {n a}:CI E0 (Hb n a) true 143 [Ar a] aI:=by unfold Hb;exact CI.w [] Tryz.func143
instance zna {n b a}:CI E0 (F0 n b a) true 140 [aI b,aI a] (fun r=>.bool (r)):=by unfold F0;exact CI.w [1] Tryz.func140
end
end Go.Proofs.YtidhlpjgifoneaaGreat
