/- What some functions compute, over plain values. -/
import Derived.Test.YtidhlpjgifoneaaGreatK21
import Derived.Test.YtidhlpjgifoneaaGreatK22
set_option linter.unusedVariables false
set_option linter.unusedSimpArgs false
set_option maxRecDepth 100000
set_option maxHeartbeats 8000000
namespace Go.Proofs.YtidhlpjgifoneaaGreat
open Go.RowKit
noncomputable section
def z13 (n:Nat)(b:z0k->(List Bool)->Option ((List Bool)))(a:z0k)(d:(List Bool)->Option ((List Bool))):Nat->Int×(List Bool)->Option ((List Bool)) |0,_=>none |e+1,c=>cnd (decide (c.1<((a.fArgs.map idA).length:Int))) (idxD z1l a.fArgs c.1 fun f=>bndM 43 (b f c.2) fun g=>(z13 n b a d e) ((IntKind.wrap .i64 (c.1+1)),g))<|d c.2
def z6g (n:Nat)(b:z0k->(List Bool)->Option ((List Bool)))(a:z0k)(d:(List Bool)->Option ((List Bool))):Nat->Int×(List Bool)->Option ((List Bool)) |0,_=>none |e+1,c=>cnd (decide (c.1<((a.fArgs.map idA).length:Int))) (idxD z1l a.fArgs c.1 fun f=>bndM 43 (b f c.2) fun g=>(z6g n b a d e) ((IntKind.wrap .i64 (c.1+1)),g))<|d c.2
def z6f (n:Nat)(b:z0k->(List Bool)->Option ((List Bool)))(a:z0k)(d:(List Bool)->Option ((List Bool))):Nat->Int×(List Bool)->Option ((List Bool)) |0,_=>none |e+1,c=>cnd (decide (c.1<((a.fArgs.map idA).length:Int))) (idxD z1l a.fArgs c.1 fun f=>bndM 43 (b f c.2) fun g=>(z6f n b a d e) ((IntKind.wrap .i64 (c.1+1)),g))<|d c.2
def z6e (n:Nat)(b:z0k->(List Bool)->Option ((List Bool)))(a:z0k)(d:(List Bool)->Option ((List Bool))):Nat->Int×(List Bool)->Option ((List Bool)) |0,_=>none |e+1,c=>cnd (decide (c.1<((a.fArgs.map idA).length:Int))) (idxD z1l a.fArgs c.1 fun f=>bndM 43 (b f c.2) fun g=>(z6e n b a d e) ((IntKind.wrap .i64 (c.1+1)),g))<|d c.2
def z1i:Nat->z0k->(List Bool)->Option ((List Bool)) |0,_,_=>none |n+1,a,f=>bnd (zap n a.fOp) fun i=>cnd (i.1) (cnd (decide (0<=a.fVar)) (cnd (decide (a.fVar<((f.map AV.bool).length:Int))) (nat a.fVar (f.map AV.bool).length fun h=>stx f h (fun j=>true) fun g=>z13 n (z1i n) a (fun b=>some b) n (0,g))<|z6g n (z1i n) a (fun c=>some c) n (0,f))<|z6f n (z1i n) a (fun d=>some d) n (0,f))<|z6e n (z1i n) a (fun e=>some e) n (0,f)
def z1y (n:Nat)(a:(List Bool))(c:(List Int)->Option ((List Int))):Nat->Int×(List Int)->Option ((List Int)) |0,_=>none |d+1,b=>cnd (decide (b.1<((a.map AV.bool).length:Int))) (reg<|nat b.1 (a.map AV.bool).length fun e=>elt a e fun f=>cnd (f) (app b.2 [b.1] 8 fun g=>(z1y n a c d) ((IntKind.wrap .i64 (b.1+1)),g))<|(z1y n a c d) ((IntKind.wrap .i64 (b.1+1)),b.2))<|c b.2
def z9h (n:Nat)(d:z0k):Option ((List Int)):=mak 16 1 (false:Bool) fun c=>bndM 9 (z1i n d c) fun a=>z1y n a (fun b=>some b) n (0,[])
def z64 (n:Nat)(a:(List Int))(c:(List Bool)->Option ((List Bool))):Nat->Int×(List Bool)->Option ((List Bool)) |0,_=>none |d+1,b=>cnd (decide (b.1<((a.map aI).length:Int))) (idx a b.1 fun e=>nat e (b.2.map AV.bool).length fun f=>stx b.2 f (fun h=>true) fun g=>(z64 n a c d) ((IntKind.wrap .i64 (b.1+1)),g))<|c b.2
def z6u (n:Nat)(d:z0k)(c:(List Bool)):Option ((List Bool)):=bnd (z9h n d) fun a=>z64 n a (fun b=>some b) n (0,c)
def z91 (n:Nat)(b:(List z0t)×Int×(List Bool))(d:(List Bool)->Option ((List Bool))):Nat->Int×(List Bool)->Option ((List Bool)) |0,_=>none |e+1,c=>idx b.1 b.2.1 fun f=>cnd (decide (c.1<((f.fChecks.map idA).length:Int))) (idx b.1 b.2.1 fun g=>idxD z1l g.fChecks c.1 fun h=>bndM 66 (z6u n h c.2) fun j=>(z91 n b d e) ((IntKind.wrap .i64 (c.1+1)),j))<|d c.2
def z37 (n:Nat)(c:(List Bool)->Option ((List Bool))):Nat->(List z0t)×Int×(List Bool)->Option ((List Bool)) |0,_=>none |e+1,b=>cnd (decide (b.2.1<((b.1.map z0v).length:Int))) (idx b.1 b.2.1 fun f=>bndM 46 (z6u n f.fCond b.2.2) fun g=>z91 n b (fun d=>(z37 n c e) (b.1,(IntKind.wrap .i64 (b.2.1+1)),d)) n (0,g))<|c b.2.2
def z6t (n:Nat)(g:Int)(h:z07)(a:zd9)(c:(List Bool)->Option ((List Bool))):Nat->Int×(List Bool)->Option ((List Bool)) |0,_=>none |d+1,b=>cnd (decide (b.1<((a.fGuards.map z0u).length:Int))) (idx a.fGuards b.1 fun e=>bndM 30 (z6u n e.fCond b.2) fun f=>(z6t n g h a c d) ((IntKind.wrap .i64 (b.1+1)),f))<|c b.2
def zdb (n:Nat)(e:z07)(a:Int):Option ((List Bool)):=mak 16 1 (false:Bool) fun g=>idx e.fStates a fun f=>z6t n a e f (fun b=>bnd (z6q n e a) fun d=>z37 n (fun c=>some c) n (d,0,b)) n (0,g)
def z2s (n:Nat)(a:z07)(c:Nat)(w:Int×(Ars (List Bool)))(y:Int×(Ars (List Bool)))(d:z0t)(b:Int×(Ars (List Bool)))(g:(Ars (List Bool))->Option ((List (List Bool))))(f:(Int×(Ars (List Bool)))->Option ((List (List Bool))))(k:Bool):Option ((List (List Bool))):=cnd (k) (reg<|ncx d.fFrom c<|aob b.2 (Int.toNat d.fFrom) fun e=>ncx d.fFrom c<|aob b.2 (Int.toNat d.fFrom) fun h=>aix b.2 h b.1 fun l=>ald b.2 h l fun o=>cnd (o) (aix b.2 e b.1 fun p=>asr b.2 e p true fun q=>f ((IntKind.wrap .i64 (b.1+1)),q))<|ncx d.fTo c<|aob b.2 (Int.toNat d.fTo) fun j=>aix b.2 j b.1 fun s=>ald b.2 j s fun t=>aix b.2 e b.1 fun u=>asr b.2 e u t fun v=>f ((IntKind.wrap .i64 (b.1+1)),v))<|g b.2
def z1f (n:Nat)(a:z07)(b:Nat)(e:Int×(Ars (List Bool)))(f:Int×(Ars (List Bool)))(d:z0t)(c:(Ars (List Bool))->Option ((List (List Bool)))):Nat->Int×(Ars (List Bool))->Option ((List (List Bool))) |0,_=>none |g+1,h=>jon (z2s n a b e f d h c (z1f n a b e f d c g))<|reg<|cnd (decide (0<=d.fTo)) (z2s n a b e f d h c (z1f n a b e f d c g) (decide (h.1<16)))<|z2s n a b e f d h c (z1f n a b e f d c g) false
def z28 (n:Nat)(a:z07)(c:Nat)(f:Int×(Ars (List Bool)))(d:(Ars (List Bool))->Option ((List (List Bool)))):Nat->Int×(Ars (List Bool))->Option ((List (List Bool))) |0,_=>none |g+1,b=>cnd (decide (b.1<((a.fEdges.map z0v).length:Int))) (idx a.fEdges b.1 fun h=>z1f n a c f b h (fun e=>(z28 n a c f d g) ((IntKind.wrap .i64 (b.1+1)),e)) n (0,b.2))<|d b.2
def z3b (n:Nat)(a:z07)(b:Nat)(d:(Ars (List Bool))->Option ((List (List Bool)))):Nat->Int×(Ars (List Bool))->Option ((List (List Bool))) |0,_=>none |f+1,c=>cnd (decide (c.1<((a.fStates.map z0s).length:Int))) (z28 n a b c (fun e=>(z3b n a b d f) ((IntKind.wrap .i64 (c.1+1)),e)) n (0,c.2))<|d c.2
def z7j (n:Nat)(a:z07)(c:Nat->(Ars (List Bool))->Option ((List (List Bool)))):Nat->Nat×Int×(Ars (List Bool))->Option ((List (List Bool))) |0,_=>none |d+1,b=>cnd (decide (b.2.1<((a.fStates.map z0s).length:Int))) (bndR (zdb n a b.2.1) fun e=>aap b.2.2 e 24 fun f=>(z7j n a c d) (b.1+1,(IntKind.wrap .i64 (b.2.1+1)),f))<|c b.1 b.2.2
def z86 (n:Nat)(a:z07):Option ((List (List Bool))):=arz 7003<|reg<|z7j n a (fun c d=>z3b n a c (fun b=>frq 7003 b<|reg<|some (aval b)) n (0,d)) n (0,0,([],[]))
def zbs (n:Nat)(h:Int)(a:z00)(c:(List z18)->Option ((List z18))):Nat->Int×(List z18)->Option ((List z18)) |0,_=>none |d+1,b=>cnd (decide (b.1<((a.fBindings.map z0b).length:Int))) (reg<|idx a.fBindings b.1 fun f=>cnd (decide (f.fVar=h)) (idx a.fBindings b.1 fun e=>app b.2 ([⟨e.fRef.fTime,e.fRef.fSource,e.fRef.fSeq⟩]) 24 fun g=>(zbs n h a c d) ((IntKind.wrap .i64 (b.1+1)),g))<|(zbs n h a c d) ((IntKind.wrap .i64 (b.1+1)),b.2))<|c b.2
def zgi (n:Nat)(c:z00)(a:Int):Option ((List z18)):=zbs n a c (fun b=>some b) n (0,[])
def zc1 (n:Nat)(a:(List z18))(g:(List z18))(c:Option (Bool)):Nat->Int->Option (Bool) |0,_=>none |f+1,b=>cnd (decide (b<((a.map z14).length:Int))) (idx a b fun d=>idx g b fun e=>cnd (!(decide (d.fTime=e.fTime) && (decide (d.fSource=e.fSource) && (decide (d.fSeq=e.fSeq) && true)))) (some false)<|(zc1 n a g c f) (IntKind.wrap .i64 (b+1)))<|c
def zgw (n:Nat)(e:z00)(d:z00)(c:Int):Option (Bool):=bnd (zgi n e c) fun b=>bnd (zgi n d c) fun a=>cnd (!decide (((b.map z14).length:Int)=((a.map z14).length:Int))) (some false)<|zc1 n b a (some true) n 0
def z69 (n:Nat)(a:z00)(e:z00)(f:(List (List Bool)))(c:Int)(b:Int->Option (Bool))(d:Bool):Option (Bool):=cnd (d) (some false)<|b (IntKind.wrap .i64 (c+1))
def z65 (n:Nat)(h:z00)(a:z00)(i:(List (List Bool)))(b:Option (Bool)):Nat->Int->Option (Bool) |0,_=>none |d+1,c=>cnd (decide (c<16)) (jon (z69 n h a i c (z65 n h a i b d))<|reg<|idx i a.fState fun e=>idx e c fun f=>cnd (f) (bnd (zgw n a h c) fun g=>z69 n h a i c (z65 n h a i b d) !(g))<|z69 n h a i c (z65 n h a i b d) false)<|b
def z68 (n:Nat)(a:z00)(e:z00)(f:(List (List Bool)))(c:Int)(b:Int->Option (Bool))(d:Bool):Option (Bool):=cnd (d) (some false)<|b (IntKind.wrap .i64 (c+1))
def z67 (n:Nat)(i:z00)(a:z00)(j:(List (List Bool)))(c:Option (Bool)):Nat->Int->Option (Bool) |0,_=>none |d+1,b=>cnd (decide (b<((a.fStarts.map z08).length:Int))) (jon (z68 n i a j b (z67 n i a j c d))<|reg<|idx a.fStarts b fun e=>idx i.fStarts b fun f=>cnd (!decide (e.fScope=f.fScope)) (z68 n i a j b (z67 n i a j c d) true)<|idx a.fStarts b fun g=>idx i.fStarts b fun h=>z68 n i a j b (z67 n i a j c d) (decide (g.fTime<h.fTime)))<|c
def z6a (n:Nat)(a:z00)(c:z00)(d:(List (List Bool)))(b:Bool):Option (Bool):=cnd (b) (some false)<|z67 n a c d (z65 n a c d (some true) n 0) n 0
def zdx (n:Nat)(c:(List (List Bool)))(b:z00)(a:z00):Option (Bool):=jon (z6a n a b c)<|reg<|cnd (!decide (b.fState=a.fState)) (z6a n a b c true)<|z6a n a b c (!decide (((b.fStarts.map z08).length:Int)=((a.fStarts.map z08).length:Int)))
def z2r (n:Nat)(a:(List z00))(i:(List (List Bool)))(d:Int×(List z00))(c:Bool->Option ((List z00))):Nat->Bool×Int->Option ((List z00)) |0,_=>none |e+1,b=>cnd (decide (b.2<((a.map z01).length:Int))) (reg<|cnd (!decide (b.2=d.1)) (idx a b.2 fun f=>idx a d.1 fun g=>bnd (zdx n i f g) fun h=>cnd (h) (cnd (decide (b.2<d.1)) ((z2r n a i d c e) (false,(IntKind.wrap .i64 (b.2+1))))<|idx a d.1 fun j=>idx a b.2 fun k=>bnd (zdx n i j k) fun l=>cnd (!(l)) ((z2r n a i d c e) (false,(IntKind.wrap .i64 (b.2+1))))<|(z2r n a i d c e) (b.1,(IntKind.wrap .i64 (b.2+1))))<|(z2r n a i d c e) (b.1,(IntKind.wrap .i64 (b.2+1))))<|(z2r n a i d c e) (b.1,(IntKind.wrap .i64 (b.2+1))))<|c b.1
def z9g (n:Nat)(a:(List z00))(h:(List (List Bool)))(c:(List z00)->Option ((List z00))):Nat->Int×(List z00)->Option ((List z00)) |0,_=>none |d+1,b=>cnd (decide (b.1<((a.map z01).length:Int))) (z2r n a h b (fun e=>reg<|cnd (e) (idx a b.1 fun f=>app b.2 [f] 56 fun g=>(z9g n a h c d) ((IntKind.wrap .i64 (b.1+1)),g))<|(z9g n a h c d) ((IntKind.wrap .i64 (b.1+1)),b.2)) n (true,0))<|c b.2
def zb6 (n:Nat)(c:(List (List Bool)))(a:(List z00)):Option ((List z00)):=z9g n a c (fun b=>some b) n (0,[])
def z3m (n:Nat)(g:Bool)(h:(List z03))(i:z07)(a:(List (List Bool)))(b:Int×(List (List z00)))(c:(Int×(List (List z00)))->Option ((List (List z00))×Int))(d:(List z00)):Option ((List (List z00))×Int):=bldS ([d]:List (List z00)) fun e=>app b.2 e 24 fun f=>c ((IntKind.wrap .i64 (b.1+1)),f)
def z5m (n:Nat)(g:Bool)(h:(List z03))(i:z07)(a:(List (List Bool)))(c:Int×(List (List z00)))(b:(Int×(List (List z00)))->Option ((List (List z00))×Int))(d:(List z00)×(List z06))(e:Bool):Option ((List (List z00))×Int):=cnd (e) (some ([],17))<|cnd (decide (0<((d.2.map z0c).length:Int))) (some ([],22))<|jon (z3m n g h i a c b)<|reg<|cnd (g) (bnd (zb6 n a d.1) fun f=>z3m n g h i a c b f)<|z3m n g h i a c b d.1
def z2l (n:Nat)(k:Bool)(a:(List z03))(i:z07)(j:(List (List Bool)))(c:(List (List z00))->Option ((List (List z00))×Int)):Nat->Int×(List (List z00))->Option ((List (List z00))×Int) |0,_=>none |d+1,b=>cnd (decide (b.1<((a.map z02).length:Int))) (nat b.1 (List.map (fun q=>AV.sl 3 (List.map z01 q)) (b.2)).length fun f=>elt b.2 f fun g=>idx a b.1 fun h=>bnd (z9p n i a g h) fun e=>jon (z5m n k a i j b (z2l n k a i j c d) e)<|reg<|cnd (decide (4096<((e.1.map z01).length:Int))) (z5m n k a i j b (z2l n k a i j c d) e true)<|z5m n k a i j b (z2l n k a i j c d) e (decide (4096<((e.2.map z0c).length:Int))))<|c b.2
def zcd (n:Nat)(a:z07)(h:(List z03))(g:Bool):Option ((List (List z00))×Int):=bnd (z86 n a) fun f=>bnd (z9x n) fun e=>bldS ([e]:List z00) fun d=>bld ([d]:List (List z00)) fun c=>z2l n g h a f (fun b=>some (b,0)) n (0,c)
def z54 (n:Nat)(d:z07)(c:(List z03)):Option (z0z×Int):=bnd (z3e n d c) fun b=>cnd (!decide (b=0)) (some (⟨[]⟩,b))<|bnd (zcd n d c false) fun a=>some (⟨a.1⟩,a.2)
def z0y (n:Nat)(b:Bool):Option (Bool):=some b
def z82 (n:Nat)(b:z07)(a:(List z03)):Option (Bool):=bnd (z87 n b a) fun h=>cnd (!(h)) (bnd (z8a n) fun g=>some g)<|bnd (z3u n b a) fun d=>bnd (z54 n b a) fun c=>jon (z0y n)<|reg<|bnd (z6p n d.1 c.1) fun f=>cnd (f) (cnd (decide (d.2=c.2)) (bnd (z8a n) fun e=>z0y n e)<|z0y n false)<|z0y n false
attribute [irreducible] z2s z69 z68 z6a z3m z5m z0y           
end
noncomputable section
abbrev znf {n b a g c d e}:=jf (z4u n b a g c d e) (fun f=>⟨[(1,aI a),(2,.ptr 2 0),(5,aI c.1),(6,aI c.2),(16,.bool (f))],[(2,.box 111 (z5a g))]⟩) fun _=>z4u.eq_1 ..
abbrev zne {n b a e c}:=li (z3c n b a e c) (fun d=>⟨[(1,aI a),(2,.ptr 2 0),(5,aI d.1),(6,aI d.2)],[(2,.box 111 (z5a e))]⟩) fun _ _=>z3c.eq_2 ..
abbrev znd {n b a c}:=li (z7r n b a c) (fun d=>⟨[(1,.ptr 1 0),(3,aI d.1),(4,aI d.2)],[(1,.box 111 (z5a a))]⟩) fun _ _=>z7r.eq_2 ..
abbrev zn8 {n}:=jt (z1g n) (fun b=>⟨[(12,.bool (b))],[]⟩) fun _=>z1g.eq_1 ..
abbrev zn9 {n a}:=jt (z1w n a) (fun b=>⟨[(3,aI a),(4,.bool (b))],[]⟩) fun _=>z1w.eq_1 ..
abbrev zos {n b}:=jf (z3n n b) (fun c=>⟨[(2,.bool (c)),(3,.bool (b))],[]⟩) fun _=>z3n.eq_1 ..
abbrev zot {n a}:=jf (z5t n a) (fun b=>⟨[(0,aI a),(4,.bool (b))],[]⟩) fun _=>z5t.eq_1 ..
abbrev zng {n}:=jf (z2b n) (fun b=>⟨[(4,.bool (b))],[]⟩) fun _=>z2b.eq_1 ..
abbrev zov {n}:=jf (z0i n) (fun b=>⟨[(130,.bool (b))],[]⟩) fun _=>z0i.eq_1 ..
abbrev zow {n d a b}:=jf (z2m n d a b) (fun c=>⟨[(1,.ptr 1 0),(4,.bool (a.1)),(5,.bool (a.2)),(6,.bool (decide (d.fOp=4))),(7,.bool (b)),(95,.bool (c))],[(1,.box 111 (z5a d))]⟩) fun _=>z2m.eq_1 ..
abbrev zox {n c a b}:=jt (z5u n c a b) (fun _=>⟨[(1,.ptr 1 0),(4,.bool (a.1)),(5,.bool (a.2)),(6,.bool (decide (c.fOp=4))),(7,.bool (b))],[(1,.box 111 (z5a c))]⟩) fun _=>z5u.eq_1 ..
abbrev zoy {n c a}:=jf (z5v n c a) (fun b=>⟨[(1,.ptr 1 0),(4,.bool (a.1)),(5,.bool (a.2)),(6,.bool (decide (c.fOp=4))),(7,.bool (b))],[(1,.box 111 (z5a c))]⟩) fun _=>z5v.eq_1 ..
abbrev zoz {n c a}:=jf (z3p n c a) (fun b=>⟨[(1,.ptr 1 0),(4,.bool (a.1)),(5,.bool (a.2)),(6,.bool (decide (c.fOp=4))),(62,.bool (b))],[(1,.box 111 (z5a c))]⟩) fun _=>z3p.eq_1 ..
abbrev zp0 {n c a}:=jf (z1e n c a) (fun b=>⟨[(1,.ptr 1 0),(4,.bool (a.1)),(5,.bool (a.2)),(48,.bool (b))],[(1,.box 111 (z5a c))]⟩) fun _=>z1e.eq_1 ..
abbrev zn7 {n b a c}:=li (z7q n b a c) (fun d=>⟨[(1,.ptr 1 0),(4,aI d)],[(1,.box 111 (z5a a))]⟩) fun _ _=>z7q.eq_2 ..
attribute [instance] znf zne znd zn8 zn9 zos zot zng zov zow zox zoy zoz zp0 zn7
def zsr (r:Int):AV:=aI (r)
theorem zmp {n d c r}(b:z2y n d c=some r):Con E0 true 95 [z0n d,aI c] (aI r):=by
 induction n generalizing d c r
 case zero=>cases b
 case succ n e =>
 unfold z2y at b;refine cw Tryz.func95 ?_;repeat' first
  |refine AW.jI b (fun v b=>?_) fun b=>?_
  |refine AW.regO b fun b=>?_
  |refine AW.stepU [3] ?_;conv=>whnf
  |refine z10.o b (fun b=>?_) fun b=>?_
  |refine IdxX.oD b z2q (fun x b=>?_)
  |refine z1h.o b zsr (fun a h=>e h) (fun a b=>?_)
  |exact ⟨_,b,LeX.a []⟩
  |refine z63.I b (LeX.a []) fun m v b=>?_
  |exact RetX.oB b
instance y5d {n b a}:CI E0 (z2y n b a) true 95 [z0n b,aI a] aI:=⟨zmp⟩
def zsq (r:Int):AV:=aI (r)
theorem zmo {n c r}(b:z2x n c=some r):Con E0 true 96 [z0n c] (aI r):=by
 induction n generalizing c r
 case zero=>cases b
 case succ n d =>
 unfold z2x at b;refine cw Tryz.func96 ?_;repeat' first
  |refine AW.step ?_;conv=>whnf
  |refine z10.o b (fun b=>?_) fun b=>?_
  |refine IdxX.oD b z2q (fun x b=>?_)
  |refine z1h.o b zsq (fun a h=>d h) (fun a b=>?_)
  |exact ⟨_,b,LeX.a []⟩
  |refine z63.I b (LeX.a []) fun m v b=>?_
  |exact RetX.oB b
instance y5c {n a}:CI E0 (z2x n a) true 96 [z0n a] aI:=⟨zmo⟩
instance y59 {n a}:CI E0 (zbw n a) true 235 [aI a] aI:=by unfold zbw;exact CI.w [2,3,4,5,10,11,12,13,14,15] Tryz.func235
instance y6n {n a}:CI E0 (zap n a) true 234 [aI a] (fun r=>.tup [.bool (r.1),.bool (r.2)]):=by unfold zap;exact CI.w [1,2] Tryz.func234
instance y5k {n a}:CI E0 (z3r n a) true 236 [z09 a] aI:=by unfold z3r;exact CI.w [] Tryz.func236
instance y5g {n b a}:CI E0 (z89 n b a) true 237 [aI b,z09 a] (fun r=>.bool (r)):=by unfold z89;exact CI.w [1] Tryz.func237
instance y6q {n c}:CI E0 (zch n c) true 209 [z0n c] aI:=⟨fun {r} b=>by
 unfold zch at b;refine cw Tryz.func209 ?_;repeat' first
  |refine AW.jI b (fun v b=>?_) fun b=>?_
  |refine AW.jI2 b (fun v b=>?_) fun b=>?_
  |refine AW.regO b fun b=>?_
  |refine AW.stepU [7,10,12,13,17,19] ?_;conv=>whnf
  |refine z10.o b (fun b=>?_) fun b=>?_
  |refine z10.t ?_
  |refine z10.f ?_
  |refine z1h.I b fun a b=>?_
  |exact ⟨_,b,LeX.a []⟩
  |exact ⟨(),b,LeX.a []⟩
  |refine EqX.A ?_
  |exact RetX.oB b⟩
def zso (r:Int):AV:=aI (r)
theorem zmn {n c r}(b:z3o n c=some r):Con E0 true 179 [z0n c] (aI r):=by
 induction n generalizing c r
 case zero=>cases b
 case succ n d =>
 unfold z3o at b;refine cw Tryz.func179 ?_;repeat' first
  |refine AW.step ?_;conv=>whnf
  |refine z10.o b (fun b=>?_) fun b=>?_
  |refine z1h.I b fun a b=>?_
  |refine IdxX.oD b z2q (fun x b=>?_)
  |refine z1h.o b zso (fun a h=>d h) (fun a b=>?_)
  |exact ⟨_,b,LeX.a []⟩
  |refine z63.I b (LeX.a []) fun m v b=>?_
  |exact RetX.oB b
instance y58 {n a}:CI E0 (z3o n a) true 179 [z0n a] aI:=⟨zmn⟩
end
noncomputable section
abbrev zqf {n}:=jf (z6y n) (fun b=>⟨[(4,.bool (b))],[]⟩) fun _=>z6y.eq_1 ..
abbrev zm3 {n a e b c}:=li (z6d n a e b c) (fun d=>⟨[(1,.sl 11 (a.map z0u)),(2,.ptr 2 0),(5,aI b),(6,aI d)],[(2,.box 25 (z0d e))]⟩) fun _ _=>z6d.eq_2 ..
abbrev zm5 {n a e b c}:=jf (z2v n a e b c) (fun d=>⟨[(1,.sl 11 (a.map z0u)),(2,.ptr 2 0),(5,aI b),(44,.bool (d))],[(2,.box 25 (z0d e))]⟩) fun _=>z2v.eq_1 ..
abbrev zm4 {n a d b}:=li (z1p n a d b) (fun c=>⟨[(1,.sl 11 (a.map z0u)),(2,.ptr 2 0),(5,aI c)],[(2,.box 25 (z0d d))]⟩) fun _ _=>z1p.eq_2 ..
abbrev zm1 {n a e b c}:=li (z6c n a e b c) (fun d=>⟨[(0,.sl 1 (e.map aI)),(1,aI a),(5,aI b),(6,aI d)],[]⟩) fun _ _=>z6c.eq_2 ..
abbrev zm2 {n a d b}:=li (z40 n a d b) (fun c=>⟨[(0,.sl 1 (d.map aI)),(1,aI a),(5,aI c)],[]⟩) fun _ _=>z40.eq_2 ..
abbrev zmy {n a b}:=li (z4q n a b) (fun c=>⟨[(3,.ptr 3 0),(10,aI c)],[(3,.box 115 (z1z a))]⟩) fun _ _=>z4q.eq_2 ..
abbrev zmz {n a e b c}:=li (z29 n a e b c) (fun d=>⟨[(2,.ptr 2 0),(3,.ptr 3 0),(7,.sl 1 [.sl 1 (a.fOpens.map aI),.sl 1 (a.fCloses.map aI),.sl 1 (a.fInside.map aI),.sl 1 (b.map aI)]),(8,aI d)],[(2,.box 25 (z0d e)),(3,.box 115 (z1z a))]⟩) fun _ _=>z29.eq_2 ..
abbrev zn0 {n a d b}:=li (z7m n a d b) (fun c=>⟨[(2,.ptr 2 0),(3,.ptr 3 0),(5,.row 7026),(6,aI c.1)],[(2,.box 25 (z0d d)),(3,.box 115 (z1z a)),(7026,.row 3 1 (c.2.map aI))]⟩) fun _ _=>z7m.eq_2 ..
abbrev zol {n a d b}:=li (z8l n a d b) (fun c=>⟨[(3,.ptr 3 0),(4,.ptr 4 0),(9,aI c)],[(3,.box 25 (z0d d)),(4,.box 115 (z1z a))]⟩) fun _ _=>z8l.eq_2 ..
abbrev zom {n a c d}:=jf (z1a n a c d) (fun b=>⟨[(2,aI a),(3,.ptr 3 0),(4,.ptr 4 0),(42,.bool (b))],[(3,.box 25 (z0d d)),(4,.box 115 (z1z c))]⟩) fun _=>z1a.eq_1 ..
abbrev zn1 {n a b}:=li (z7n n a b) (fun c=>⟨[(1,.ptr 1 0),(5,aI c.1),(6,aI c.2)],[(1,.box 25 (z0d a))]⟩) fun _ _=>z7n.eq_2 ..
abbrev zn2 {n a b}:=li (z7o n a b) (fun c=>⟨[(1,.ptr 1 0),(3,aI c)],[(1,.box 25 (z0d a))]⟩) fun _ _=>z7o.eq_2 ..
abbrev zn3 {n a}:=jf (z1u n a) (fun b=>⟨[(1,.ptr 1 0),(31,.bool (b))],[(1,.box 25 (z0d a))]⟩) fun _=>z1u.eq_1 ..
abbrev zn4 {n a}:=jf (z2a n a) (fun b=>⟨[(1,.ptr 1 0),(15,.bool (b))],[(1,.box 25 (z0d a))]⟩) fun _=>z2a.eq_1 ..
attribute [instance] zqf zm3 zm5 zm4 zm1 zm2 zmy zmz zn0 zol zom zn1 zn2 zn3 zn4
instance y5e {n a}:CI E0 (z2z n a) true 138 [z0n a] aI:=by unfold z2z;exact CI.w [] Tryz.func138
instance y97 {n b a}:CI E0 (z1c n b a) true 97 [aI b,aI a] (fun r=>.bool (r)):=by unfold z1c;exact CI.w [1] Tryz.func97
instance y3i {n b a}:CI E0 (zb9 n b a) true 98 [z0m b,.sl 11 (a.map z0u)] aI:=by unfold zb9;exact CI.w [6] Tryz.func98
instance y3h {n b a}:CI E0 (z97 n b a) true 180 [.sl 1 (b.map aI),aI a] aI:=by unfold z97;exact CI.w [] Tryz.func180
instance y53 {n d c}:CI E0 (z9y n d c) true 139 [z0m d,z0v c] aI:=⟨fun {r} b=>by
 unfold z9y at b;refine cw Tryz.func139 ?_;repeat' first
  |refine AW.regO b fun b=>?_
  |refine AW.frzO b 7026 rfl (fun b=>?_)
  |refine AW.stepU [6] ?_;conv=>whnf
  |refine z10.o b (fun b=>?_) fun b=>?_
  |refine IdxX.A b fun x b=>?_
  |refine z1h.I b fun a b=>?_
  |exact ⟨_,b,LeX.a []⟩
  |refine z63.I b ?_ fun m v b=>?_
  |exact LeX.a []
  |refine IdxX.o (fun q=>AV.sl 1 (List.map aI q)) b fun x b=>?_
  |refine AppX.oA b fun l b=>?_
  |exact ⟨_,b,LeX.a [(7026,26)]⟩
  |exact LeX.trans (LeX.adopt 5 7026 3 1 rfl rfl) (LeX.a [])
  |refine AndA ?_
  |exact RetX.oB b⟩
instance y6l {n e d c}:CI E0 (zcg n e d c) true 99 [z0m e,z0v d,aI c] aI:=⟨fun {r} b=>by
 unfold zcg at b;refine cw Tryz.func99 ?_;repeat' first
  |refine AW.jI b (fun v b=>?_) fun b=>?_
  |refine AW.regO b fun b=>?_
  |refine AW.stepU [2] ?_;conv=>whnf
  |refine z10.o b (fun b=>?_) fun b=>?_
  |refine z10.t ?_
  |refine z10.f ?_
  |refine z1h.I b fun a b=>?_
  |refine IdxX.oD b z2q (fun x b=>?_)
  |exact ⟨_,b,LeX.a []⟩
  |refine z63.I b (LeX.a []) fun m v b=>?_
  |exact RetX.oB b⟩
end
noncomputable section
abbrev y1s {n b a d}:=li (zg7 n b a d) (fun c=>⟨[(4,aI c.1),(5,aI c.2.1),(11,.sl 8 (a.fArgs.map idA)),(12,aI (((a.fArgs.map idA).length:Int))),(13,aI c.2.2)],[]⟩) fun _ _=>zg7.eq_2 ..
abbrev y09 {n a}:=jf (zdu n a) (fun b=>⟨[(0,aI a),(4,.bool (b))],[]⟩) fun _=>zdu.eq_1 ..
abbrev y1l {n}:=jt (zf0 n) (fun b=>⟨[(8,.bool (b))],[]⟩) fun _=>zf0.eq_1 ..
abbrev y1m {n a}:=jt (zf1 n a) (fun b=>⟨[(4,aI a),(5,.bool (b))],[]⟩) fun _=>zf1.eq_1 ..
abbrev y08 {n}:=jf (zbz n) (fun b=>⟨[(4,.bool (b))],[]⟩) fun _=>zbz.eq_1 ..
abbrev zus {n}:=jf (z62 n) (fun b=>⟨[(31,.bool (b))],[]⟩) fun _=>z62.eq_1 ..
abbrev y1n {n}:=jf (z17 n) (fun b=>⟨[(113,.bool (b))],[]⟩) fun _=>z17.eq_1 ..
abbrev y1o {n c a b}:=jt (zf2 n c a b) (fun _=>⟨[(1,.ptr 1 0),(5,.bool (a.1)),(6,.bool (a.2)),(7,.bool (decide (c.fOp=4))),(8,.bool (b))],[(1,.box 111 (z5a c))]⟩) fun _=>zf2.eq_1 ..
abbrev y1p {n c a}:=jf (zf3 n c a) (fun b=>⟨[(1,.ptr 1 0),(5,.bool (a.1)),(6,.bool (a.2)),(7,.bool (decide (c.fOp=4))),(8,.bool (b))],[(1,.box 111 (z5a c))]⟩) fun _=>zf3.eq_1 ..
abbrev y1q {n c a}:=jf (zcv n c a) (fun b=>⟨[(1,.ptr 1 0),(5,.bool (a.1)),(6,.bool (a.2)),(7,.bool (decide (c.fOp=4))),(66,.bool (b))],[(1,.box 111 (z5a c))]⟩) fun _=>zcv.eq_1 ..
abbrev y1r {n c a}:=jf (z6n n c a) (fun b=>⟨[(1,.ptr 1 0),(5,.bool (a.1)),(6,.bool (a.2)),(52,.bool (b))],[(1,.box 111 (z5a c))]⟩) fun _=>z6n.eq_1 ..
abbrev y07 {n b a c}:=li (zfl n b a c) (fun d=>⟨[(1,.fn 183 []),(16,.sl 8 (a.fArgs.map idA)),(17,aI (((a.fArgs.map idA).length:Int))),(18,aI d)],[]⟩) fun _ _=>zfl.eq_2 ..
abbrev zs6 {n}:=jf (z8d n) (fun b=>⟨[(4,.bool (b))],[]⟩) fun _=>z8d.eq_1 ..
attribute [instance] y1s y09 y1l y1m y08 zus y1n y1o y1p y1q y1r y07 zs6
instance y54 {n a}:CI E0 (z56 n a) true 63 [z0m a] aI:=by unfold z56;exact CI.w [1,3] Tryz.func63
def yd7 (r:Int×Int):AV:=.tup [aI (r.1),aI (r.2)]
theorem y0m {n c r}(b:zg0 n c=some r):Con E0 true 182 [z0n c] (.tup [aI r.1,aI r.2]):=by
 induction n generalizing c r
 case zero=>cases b
 case succ n d =>
 unfold zg0 at b;refine cw Tryz.func182 ?_;repeat' first
  |refine AW.step ?_;conv=>whnf
  |refine z10.o b (fun b=>?_) fun b=>?_
  |refine IdxX.oD b z2q (fun x b=>?_)
  |refine z1h.o b yd7 (fun a h=>d h) (fun a b=>?_)
  |exact ⟨_,b,LeX.a []⟩
  |refine z63.I b (LeX.a []) fun m v b=>?_
  |exact RetX.oB b
instance ym1 {n a}:CI E0 (zg0 n a) true 182 [z0n a] (fun r=>.tup [aI r.1,aI r.2]):=⟨y0m⟩
instance ykd {n a}:CI E0 (zjk n a) true 210 [aI a] (fun r=>.tup [aI r.1,.bool (r.2)]):=by unfold zjk;exact CI.w [1] Tryz.func210
instance yly {n a}:CI E0 (zj2 n a) true 153 [aI a] (fun r=>.tup [.bool (r.1),.bool (r.2)]):=by unfold zj2;exact CI.w [2,5] Tryz.func153
instance yk3 {n a}:CI E0 (zgv n a) true 252 [z09 a] aI:=by unfold zgv;exact CI.w [] Tryz.func252
instance yjb {n a}:CI E0 (zcp n a) true 238 [z09 a] aI:=by unfold zcp;exact CI.w [] Tryz.func238
instance ykb {n b a}:CI E0 (zjj n b a) true 239 [aI b,z09 a] (fun r=>.bool (r)):=by unfold zjj;exact CI.w [1] Tryz.func239
instance yf1 {n a}:CI E0 (zg2 n a) true 211 [z0n a] aI:=by unfold zg2;exact CI.w [4] Tryz.func211
instance ylz {n c}:CI E0 (zko n c) true 183 [z0n c] aI:=⟨fun {r} b=>by
 unfold zko at b;refine cw Tryz.func183 ?_;repeat' first
  |refine AW.jI b (fun v b=>?_) fun b=>?_
  |refine AW.jI2 b (fun v b=>?_) fun b=>?_
  |refine AW.regO b fun b=>?_
  |refine AW.stepU [7,10,12,13,17] ?_;conv=>whnf
  |refine z10.o b (fun b=>?_) fun b=>?_
  |refine z10.t ?_
  |refine z10.f ?_
  |refine z1h.I b fun a b=>?_
  |exact ⟨_,b,LeX.a []⟩
  |exact ⟨(),b,LeX.a []⟩
  |refine EqX.A ?_
  |exact RetX.oB b⟩
def yaa (r:Int):AV:=aI (r)
theorem zy6 {n c r}(b:zej n c=some r):Con E0 true 151 [z0n c,.fn 183 []] (aI r):=by
 induction n generalizing c r
 case zero=>cases b
 case succ n d =>
 unfold zej at b;refine cw Tryz.func151 ?_;repeat' first
  |refine AW.step ?_;conv=>whnf
  |refine z10.o b (fun b=>?_) fun b=>?_
  |refine z1h.I b fun a b=>?_
  |refine IdxX.oD b z2q (fun x b=>?_)
  |refine z1h.o b yaa (fun a h=>d h) (fun a b=>?_)
  |exact ⟨_,b,LeX.a []⟩
  |refine z63.I b (LeX.a []) fun m v b=>?_
  |exact RetX.oB b
instance yka {n a}:CI E0 (zej n a) true 151 [z0n a,.fn 183 []] aI:=⟨zy6⟩
instance yke {n a}:CI E0 (zek n a) true 143 [z0n a] aI:=by unfold zek;exact CI.w [] Tryz.func143
instance yak {n b a}:CI E0 (z3v n b a) true 140 [aI b,aI a] (fun r=>.bool (r)):=by unfold z3v;exact CI.w [1] Tryz.func140
end
noncomputable section
abbrev zrj {n b a c}:=li (za5 n b a c) (fun d=>⟨[(0,.sl 11 (a.map z0u)),(1,.fn 142 [.ref (zkj b)]),(7,aI (((a.map z0u).length:Int))),(8,aI d)],[]⟩) fun _ _=>za5.eq_2 ..
abbrev zsa {n a f b c d}:=jf (z59 n a f b c d) (fun e=>⟨[(1,.sl 11 (a.map z0u)),(2,.ptr 2 0),(5,aI b),(6,.ptr 6 0),(11,.sl 11 (a.map z0u)),(12,aI (((a.map z0u).length:Int))),(13,aI b),(18,.bool (e))],[(2,.box 25 (z0d f)),(6,.box 154 (zkj d))]⟩) fun _=>z59.eq_1 ..
abbrev zs9 {n a d b}:=li (z32 n a d b) (fun c=>⟨[(1,.sl 11 (a.map z0u)),(2,.ptr 2 0),(11,.sl 11 (a.map z0u)),(12,aI (((a.map z0u).length:Int))),(13,aI c)],[(2,.box 25 (z0d d))]⟩) fun _ _=>z32.eq_2 ..
abbrev zr4 {n a b}:=li (z9e n a b) (fun c=>⟨[(3,.row 7016),(6,.sl 2 (a.map z23)),(7,aI (((a.map z23).length:Int))),(8,aI c.1)],[(7016,.row 3 1 (c.2.map aI))]⟩) fun _ _=>z9e.eq_2 ..
abbrev zwf {n d a b}:=li (zcy n d a b) (fun c=>⟨[(0,.sl 1 (a.map aI)),(1,aI d),(7,aI (((a.map aI).length:Int))),(8,aI c)],[]⟩) fun _ _=>zcy.eq_2 ..
abbrev zs7 {n a f c b d}:=li (z3w n a f c b d) (fun e=>⟨[(2,.ptr 2 0),(6,.sl 1 (b.map aI)),(9,.sl 1 (List.map (fun q=>AV.sl 1 (List.map aI q)) (a))),(10,aI ((((List.map (fun q=>AV.sl 1 (List.map aI q)) (a)).length:Nat):Int))),(11,aI c),(15,.sl 1 (b.map aI)),(16,aI (((b.map aI).length:Int))),(17,aI e)],[(2,.box 25 (z0d f))]⟩) fun _ _=>z3w.eq_2 ..
abbrev zs8 {n a d b}:=li (z58 n a d b) (fun c=>⟨[(2,.ptr 2 0),(9,.sl 1 (List.map (fun q=>AV.sl 1 (List.map aI q)) (a))),(10,aI ((((List.map (fun q=>AV.sl 1 (List.map aI q)) (a)).length:Nat):Int))),(11,aI c)],[(2,.box 25 (z0d d))]⟩) fun _ _=>z58.eq_2 ..
abbrev zsc {n}:=jf (z8e n) (fun b=>⟨[(2,.bool (b))],[]⟩) fun _=>z8e.eq_1 ..
abbrev zme {n a b}:=li (z6j n a b) (fun c=>⟨[(0,.sl 2 (a.map z23)),(1,.fn 147 []),(7,aI (((a.map z23).length:Int))),(8,aI c)],[]⟩) fun _ _=>z6j.eq_2 ..
attribute [instance] zrj zsa zs9 zr4 zwf zs7 zs8 zsc zme
instance y70 {n b a}:CI E0 (zax n b a) true 142 [z0u b,.ref (zkj a)] (fun r=>.bool (r)):=by unfold zax;exact CI.w [] Tryz.func142
instance yag {n a b}:CI E0 (zee n a b) true 181 [.sl 11 (a.map z0u),.fn 142 [.ref (zkj b)]] aI:=by unfold zee;exact CI.w [] Tryz.func181
instance y5m {n a b}:CI E0 (za6 n a b) true 141 [.sl 11 (a.map z0u),.fn 142 [.ref (zkj b)]] (fun r=>.bool (r)):=by unfold za6;exact CI.w [] Tryz.func141
instance yan {n d c}:CI E0 (zem n d c) true 104 [z0m d,.sl 11 (c.map z0u)] aI:=⟨fun {r} b=>by
 unfold zem at b;refine cw Tryz.func104 ?_;repeat' first
  |refine AW.jI b (fun v b=>?_) fun b=>?_
  |refine AW.regO b fun b=>?_
  |refine AW.stepU [6] ?_;conv=>whnf
  |refine z10.o b (fun b=>?_) fun b=>?_
  |refine z10.t ?_
  |refine IdxX.A b fun x b=>?_
  |refine SlsX.o z0u b (fun l b=>?_)
  |refine zab.I b (fun a b=>?_) rfl rfl fun _=>Or.inr rfl
  |refine z1h.I b fun a b=>?_
  |exact ⟨_,b,LeX.a []⟩
  |refine z63.I b (LeX.a []) fun m v b=>?_
  |exact RetX.oB b⟩
instance y9s {n b}:CI E0 (zbk n b) false 145 [.sl 2 (b.map z23)] (fun r=>.sl 1 (r.map aI)):=⟨fun {r} a=>by
 unfold zbk at a;refine cw Tryz.func145 ?_;repeat' first
  |refine AW.step ?_;conv=>whnf
  |refine z10.o a (fun a=>?_) fun a=>?_
  |refine IdxX.A a fun x a=>?_
  |refine AppX.oA a fun l a=>?_
  |exact ⟨_,a,LeX.a [(7016,16)]⟩
  |refine z63.I a ?_ fun m v a=>?_
  |exact LeX.trans (LeX.adopt 3 7016 3 1 rfl rfl) (LeX.a [])
  |exact RetX.oB a⟩
instance ygs {n b a}:CI E0 (zj5 n b a) true 212 [.sl 1 (b.map aI),aI a] aI:=by unfold zj5;exact CI.w [] Tryz.func212
instance yca {n b a}:CI E0 (z8o n b a) true 184 [.sl 1 (b.map aI),aI a] (fun r=>.bool (r)):=by unfold z8o;exact CI.w [] Tryz.func184
instance yam {n d c}:CI E0 (zel n d c) true 144 [z0m d,.sl 1 (List.map (fun q=>AV.sl 1 (List.map aI q)) (c))] aI:=⟨fun {r} b=>by
 unfold zel at b;refine cw Tryz.func144 ?_;repeat' first
  |refine AW.step ?_;conv=>whnf
  |refine z10.o b (fun b=>?_) fun b=>?_
  |refine IdxX.o (fun q=>AV.sl 1 (List.map aI q)) b fun x b=>?_
  |exact ⟨_,b,LeX.a []⟩
  |refine IdxX.A b fun x b=>?_
  |refine z1h.I b fun a b=>?_
  |refine SlsX.o aI b (fun l b=>?_)
  |refine z63.I b (LeX.a []) fun m v b=>?_
  |exact RetX.oB b⟩
instance yao {n a}:CI E0 (zao n a) true 147 [z23 a] (fun r=>.bool (r)):=by unfold zao;exact CI.w [1] Tryz.func147
instance y3o {n a}:CI E0 (zbd n a) true 185 [.sl 2 (a.map z23),.fn 147 []] aI:=by unfold zbd;exact CI.w [] Tryz.func185
instance y0i {n a}:CI E0 (z6k n a) true 146 [.sl 2 (a.map z23),.fn 147 []] (fun r=>.bool (r)):=by unfold z6k;exact CI.w [] Tryz.func146
end
end Go.Proofs.YtidhlpjgifoneaaGreat
