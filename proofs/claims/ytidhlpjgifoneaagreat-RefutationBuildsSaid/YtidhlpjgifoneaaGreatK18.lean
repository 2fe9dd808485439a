/- What some functions compute, over plain values. -/
import Derived.Test.YtidhlpjgifoneaaGreatK17
set_option linter.unusedVariables false
set_option linter.unusedSimpArgs false
set_option maxRecDepth 100000
set_option maxHeartbeats 8000000
namespace Go.Proofs.YtidhlpjgifoneaaGreat
open Go.RowKit
structure z04 where
 fKind:Int
 fNum:Int
 fText:ByteArray
deriving DecidableEq,Inhabited
def z09 (x:z04):AV:=.agg [aI (x.fKind),aI (x.fNum),.str (x.fText)]
abbrev z24 (x:z04):List AV:=[aI (x.fKind),aI (x.fNum),.str (x.fText)]
structure z0k where
 fOp:Int
 fArgs:(List AV)
 fVar:Int
 fField:Int
 fKind:Int
 fValue:z04
deriving Inhabited
def z0n (x:z0k):AV:=.agg [aI (x.fOp),.sl 8 (x.fArgs.map idA),aI (x.fVar),aI (x.fField),aI (x.fKind),aI (x.fValue.fKind),aI (x.fValue.fNum),.str (x.fValue.fText)]
abbrev z5a (x:z0k):List AV:=[aI (x.fOp),.sl 8 (x.fArgs.map idA),aI (x.fVar),aI (x.fField),aI (x.fKind),aI (x.fValue.fKind),aI (x.fValue.fNum),.str (x.fValue.fText)]
def z1l:AV->Option z0k |.agg [.int .i64 h,.sl 8 g,.int .i64 f,.int .i64 e,.int .i64 d,.int .i64 c,.int .i64 b,.str a]=>some ⟨h,g,f,e,d,⟨c,b,a⟩⟩ |_=>none
theorem z2q (a:AV)(y:z0k)(h:z1l a=some y):a=z0n y:=by
 unfold z1l at h;split at h
 ·injection h with h;subst h;simp [z0n,aI,zwo]
 ·cases h
theorem zfb (y:z0k):z1l (z0n y)=some y:=by simp [z1l,z0n,aI,zwo]
def z4u (n:Nat)(b:z0k->Int->Option (Int))(a:Int)(i:z0k)(c:Int×Int)(d:Int->Option (Int))(e:(Int×Int)->Option (Int))(f:Bool):Option (Int):=cnd (f) (idxD z1l i.fArgs c.2 fun g=>bnd (b g a) fun h=>e ((IntKind.wrap .i64 (c.1+h)),(IntKind.wrap .i64 (c.2+1))))<|d c.1
def z3c (n:Nat)(b:z0k->Int->Option (Int))(a:Int)(f:z0k)(c:Int->Option (Int)):Nat->Int×Int->Option (Int) |0,_=>none |e+1,d=>jon (z4u n b a f d c (z3c n b a f c e))<|reg<|cnd (decide (d.2<((f.fArgs.map idA).length:Int))) (z4u n b a f d c (z3c n b a f c e) (decide (d.1<=a)))<|z4u n b a f d c (z3c n b a f c e) false
def z2y:Nat->z0k->Int->Option (Int) |0,_,_=>none |n+1,c,a=>z3c n (z2y n) a c (fun b=>some b) n (1,0)
def z7r (n:Nat)(b:z0k->Option (Int))(a:z0k)(d:Int->Option (Int)):Nat->Int×Int->Option (Int) |0,_=>none |e+1,c=>cnd (decide (c.2<((a.fArgs.map idA).length:Int))) (idxD z1l a.fArgs c.2 fun f=>bnd (b f) fun g=>(z7r n b a d e) ((max c.1 g),(IntKind.wrap .i64 (c.2+1))))<|d c.1
def z2x:Nat->z0k->Option (Int) |0,_=>none |n+1,a=>z7r n (z2x n) a (fun b=>some (IntKind.wrap .i64 (b+1))) n (0,0)
def z1g (n:Nat)(b:Bool):Option (Int):=cnd (b) (some 2)<|some (-1)
def z1w (n:Nat)(a:Int)(b:Bool):Option (Int):=cnd (b) (some 0)<|cnd (decide (a=12)) (some 1)<|jon (z1g n)<|reg<|cnd (decide (a=5)) (z1g n (decide (a=5)))<|reg<|cnd (decide (a=6)) (z1g n (decide (a=6)))<|reg<|cnd (decide (a=7)) (z1g n (decide (a=7)))<|reg<|cnd (decide (a=8)) (z1g n (decide (a=8)))<|reg<|cnd (decide (a=9)) (z1g n (decide (a=9)))<|reg<|cnd (decide (a=10)) (z1g n (decide (a=10)))<|z1g n (decide (a=11))
def zbw (n:Nat)(a:Int):Option (Int):=jon (z1w n a)<|reg<|cnd (decide (a=0)) (z1w n a (decide (a=0)))<|reg<|cnd (decide (a=1)) (z1w n a (decide (a=1)))<|reg<|cnd (decide (a=2)) (z1w n a (decide (a=2)))<|reg<|cnd (decide (a=3)) (z1w n a (decide (a=3)))<|z1w n a (decide (a=4))
def z3n (n:Nat)(b:Bool)(c:Bool):Option (Bool×Bool):=some (c,b)
def z5t (n:Nat)(a:Int)(b:Bool):Option (Bool×Bool):=jon (z3n n b)<|reg<|cnd (b) (z3n n b true)<|cnd (decide (a=2)) (z3n n b true)<|z3n n b (decide (a=3))
def zap (n:Nat)(a:Int):Option (Bool×Bool):=jon (z5t n a)<|reg<|cnd (decide (a=1)) (z5t n a true)<|z5t n a (decide (a=4))
def z3r (n:Nat)(a:z04):Option (Int):=cnd (decide (a.fKind<0)) (some 1)<|cnd (decide (2<a.fKind)) (some 1)<|cnd (decide (a.fKind=2)) (cnd (!decide (a.fNum=0)) (some 3)<|cnd (decide (64<((a.fText.size:Nat):Int))) (some 13)<|some 0)<|cnd (!(a.fText.toList == ByteArray.empty.toList)) (some 3)<|cnd (decide (a.fKind=1)) (cnd (decide (a.fNum<0)) (some 2)<|cnd (decide (1<a.fNum)) (some 2)<|cnd (decide (a.fNum<(-1099511627776))) (some 2)<|cnd (decide (1099511627776<a.fNum)) (some 2)<|some 0)<|cnd (decide (a.fNum<(-1099511627776))) (some 2)<|cnd (decide (1099511627776<a.fNum)) (some 2)<|some 0
def z2b (n:Nat)(b:Bool):Option (Bool):=some b
def z89 (n:Nat)(a:Int)(b:z04):Option (Bool):=jon (z2b n)<|reg<|cnd (decide (b.fKind=0)) (z2b n true)<|cnd (decide (a=0)) (z2b n true)<|cnd (decide (a=4)) (z2b n true)<|z2b n (decide (a=5))
def z0i (n:Nat)(b:Bool):Option (Int):=cnd (b) (some 3)<|some 0
def z2m (n:Nat)(a:z0k)(d:Bool×Bool)(b:Bool)(c:Bool):Option (Int):=cnd (c) (some 9)<|jon (z0i n)<|reg<|cnd (!(d.1)) (cnd (!decide (a.fVar=0)) (z0i n true)<|cnd (!(d.2)) (cnd (!decide (a.fField=0)) (z0i n true)<|cnd (!(decide (a.fOp=4))) (cnd (!decide (a.fKind=0)) (z0i n true)<|cnd (!(b)) (z0i n (!(decide (a.fValue.fKind=0) && (decide (a.fValue.fNum=0) && ((a.fValue.fText.toList == ByteArray.empty.toList) && true)))))<|z0i n false)<|cnd (!(b)) (z0i n (!(decide (a.fValue.fKind=0) && (decide (a.fValue.fNum=0) && ((a.fValue.fText.toList == ByteArray.empty.toList) && true)))))<|z0i n false)<|cnd (!(decide (a.fOp=4))) (cnd (!decide (a.fKind=0)) (z0i n true)<|cnd (!(b)) (z0i n (!(decide (a.fValue.fKind=0) && (decide (a.fValue.fNum=0) && ((a.fValue.fText.toList == ByteArray.empty.toList) && true)))))<|z0i n false)<|cnd (!(b)) (z0i n (!(decide (a.fValue.fKind=0) && (decide (a.fValue.fNum=0) && ((a.fValue.fText.toList == ByteArray.empty.toList) && true)))))<|z0i n false)<|cnd (!(d.2)) (cnd (!decide (a.fField=0)) (z0i n true)<|cnd (!(decide (a.fOp=4))) (cnd (!decide (a.fKind=0)) (z0i n true)<|cnd (!(b)) (z0i n (!(decide (a.fValue.fKind=0) && (decide (a.fValue.fNum=0) && ((a.fValue.fText.toList == ByteArray.empty.toList) && true)))))<|z0i n false)<|cnd (!(b)) (z0i n (!(decide (a.fValue.fKind=0) && (decide (a.fValue.fNum=0) && ((a.fValue.fText.toList == ByteArray.empty.toList) && true)))))<|z0i n false)<|cnd (!(decide (a.fOp=4))) (cnd (!decide (a.fKind=0)) (z0i n true)<|cnd (!(b)) (z0i n (!(decide (a.fValue.fKind=0) && (decide (a.fValue.fNum=0) && ((a.fValue.fText.toList == ByteArray.empty.toList) && true)))))<|z0i n false)<|cnd (!(b)) (z0i n (!(decide (a.fValue.fKind=0) && (decide (a.fValue.fNum=0) && ((a.fValue.fText.toList == ByteArray.empty.toList) && true)))))<|z0i n false
def z5u (n:Nat)(a:z0k)(d:Bool×Bool)(b:Bool)(_:Unit):Option (Int):=jon (z2m n a d b)<|reg<|cnd (decide (a.fOp=4)) (bnd (z89 n a.fKind a.fValue) fun c=>cnd (!(c)) (z2m n a d b true)<|cnd (decide (a.fKind=1)) (z2m n a d b (!(decide (a.fValue.fKind=0) && (decide (a.fValue.fNum=0) && ((a.fValue.fText.toList == ByteArray.empty.toList) && true)))))<|z2m n a d b false)<|z2m n a d b false
def z5v (n:Nat)(a:z0k)(d:Bool×Bool)(b:Bool):Option (Int):=jon (z5u n a d b)<|reg<|cnd (b) (bnd (z3r n a.fValue) fun c=>cnd (!decide (c=0)) (some c)<|z5u n a d b ())<|z5u n a d b ()
def z3p (n:Nat)(a:z0k)(c:Bool×Bool)(b:Bool):Option (Int):=cnd (b) (some 1)<|jon (z5v n a c)<|reg<|cnd (decide (a.fOp=4)) (z5v n a c true)<|z5v n a c (decide (a.fOp=0))
def z1e (n:Nat)(a:z0k)(c:Bool×Bool)(b:Bool):Option (Int):=cnd (b) (some 2)<|jon (z3p n a c)<|reg<|cnd (decide (a.fOp=4)) (cnd (decide (a.fKind<1)) (z3p n a c true)<|z3p n a c (decide (5<a.fKind)))<|z3p n a c false
def zch (n:Nat)(a:z0k):Option (Int):=bnd (zbw n a.fOp) fun c=>cnd (decide (c<0)) (some 1)<|cnd (!decide (((a.fArgs.map idA).length:Int)=c)) (some 15)<|bnd (zap n a.fOp) fun b=>jon (z1e n a b)<|reg<|cnd (b.1) (cnd (decide (a.fVar<0)) (z1e n a b true)<|cnd (decide (16<=a.fVar)) (z1e n a b true)<|cnd (b.2) (cnd (decide (a.fField<0)) (z1e n a b true)<|z1e n a b (decide (8<=a.fField)))<|z1e n a b false)<|cnd (b.2) (cnd (decide (a.fField<0)) (z1e n a b true)<|z1e n a b (decide (8<=a.fField)))<|z1e n a b false
def z7q (n:Nat)(b:z0k->Option (Int))(a:z0k)(c:Option (Int)):Nat->Int->Option (Int) |0,_=>none |e+1,d=>cnd (decide (d<((a.fArgs.map idA).length:Int))) (idxD z1l a.fArgs d fun g=>bnd (b g) fun f=>cnd (!decide (f=0)) (some f)<|(z7q n b a c e) (IntKind.wrap .i64 (d+1)))<|c
def z3o:Nat->z0k->Option (Int) |0,_=>none |n+1,b=>bnd (zch n b) fun a=>cnd (!decide (a=0)) (some a)<|z7q n (z3o n) b (some 0) n 0
def z2z (n:Nat)(a:z0k):Option (Int):=bnd (z2y n a 64) fun d=>cnd (decide (64<d)) (some 5)<|bnd (z2x n a) fun c=>cnd (decide (12<c)) (some 12)<|bnd (z3o n a) fun b=>some b
structure z0w where
 fScope:Int
 fType:Int
 fVar:Int
 fCond:z0k
deriving Inhabited
def z0u (x:z0w):AV:=.agg [aI (x.fScope),aI (x.fType),aI (x.fVar),aI (x.fCond.fOp),.sl 8 (x.fCond.fArgs.map idA),aI (x.fCond.fVar),aI (x.fCond.fField),aI (x.fCond.fKind),aI (x.fCond.fValue.fKind),aI (x.fCond.fValue.fNum),.str (x.fCond.fValue.fText)]
abbrev zkj (x:z0w):List AV:=[aI (x.fScope),aI (x.fType),aI (x.fVar),aI (x.fCond.fOp),.sl 8 (x.fCond.fArgs.map idA),aI (x.fCond.fVar),aI (x.fCond.fField),aI (x.fCond.fKind),aI (x.fCond.fValue.fKind),aI (x.fCond.fValue.fNum),.str (x.fCond.fValue.fText)]
structure zd9 where
 fGuards:(List z0w)
deriving Inhabited
def z0s (x:zd9):AV:=.agg [.sl 11 (x.fGuards.map z0u)]
structure z1j where
 fScope:Int
 fSpan:Int
deriving DecidableEq,Inhabited
def z23 (x:z1j):AV:=.agg [aI (x.fScope),aI (x.fSpan)]
abbrev zpp (x:z1j):List AV:=[aI (x.fScope),aI (x.fSpan)]
structure z0t where
 fFrom:Int
 fTo:Int
 fVar:Int
 fType:Int
 fCond:z0k
 fOpens:(List Int)
 fCloses:(List Int)
 fChecks:(List AV)
 fLimits:(List z1j)
 fInside:(List Int)
deriving Inhabited
def z0v (x:z0t):AV:=.agg [aI (x.fFrom),aI (x.fTo),aI (x.fVar),aI (x.fType),aI (x.fCond.fOp),.sl 8 (x.fCond.fArgs.map idA),aI (x.fCond.fVar),aI (x.fCond.fField),aI (x.fCond.fKind),aI (x.fCond.fValue.fKind),aI (x.fCond.fValue.fNum),.str (x.fCond.fValue.fText),.sl 1 (x.fOpens.map aI),.sl 1 (x.fCloses.map aI),.sl 8 (x.fChecks.map idA),.sl 2 (x.fLimits.map z23),.sl 1 (x.fInside.map aI)]
abbrev z1z (x:z0t):List AV:=[aI (x.fFrom),aI (x.fTo),aI (x.fVar),aI (x.fType),aI (x.fCond.fOp),.sl 8 (x.fCond.fArgs.map idA),aI (x.fCond.fVar),aI (x.fCond.fField),aI (x.fCond.fKind),aI (x.fCond.fValue.fKind),aI (x.fCond.fValue.fNum),.str (x.fCond.fValue.fText),.sl 1 (x.fOpens.map aI),.sl 1 (x.fCloses.map aI),.sl 8 (x.fChecks.map idA),.sl 2 (x.fLimits.map z23),.sl 1 (x.fInside.map aI)]
structure z07 where
 fVars:Int
 fScopes:Int
 fStates:(List zd9)
 fEdges:(List z0t)
deriving Inhabited
def z0m (x:z07):AV:=.agg [aI (x.fVars),aI (x.fScopes),.sl 1 (x.fStates.map z0s),.sl 17 (x.fEdges.map z0v)]
abbrev z0d (x:z07):List AV:=[aI (x.fVars),aI (x.fScopes),.sl 1 (x.fStates.map z0s),.sl 17 (x.fEdges.map z0v)]
def z6y (n:Nat)(b:Bool):Option (Bool):=some b
def z1c (n:Nat)(a:Int)(b:Int):Option (Bool):=jon (z6y n)<|reg<|cnd (decide (a<0)) (z6y n true)<|z6y n (decide (b<a))
def z6d (n:Nat)(a:(List z0w))(h:z07)(c:Int)(b:Option (Int)):Nat->Int->Option (Int) |0,_=>none |e+1,d=>cnd (decide (d<c)) (idx a d fun f=>idx a c fun g=>cnd (decide (f.fScope=g.fScope)) (some 7)<|(z6d n a h c b e) (IntKind.wrap .i64 (d+1)))<|b
def z2v (n:Nat)(a:(List z0w))(g:z07)(b:Int)(c:Int->Option (Int))(e:Bool):Option (Int):=cnd (e) (some 2)<|z6d n a g b (idx a b fun f=>bnd (z2z n f.fCond) fun d=>cnd (!decide (d=0)) (some d)<|c (IntKind.wrap .i64 (b+1))) n 0
def z1p (n:Nat)(a:(List z0w))(i:z07)(b:Option (Int)):Nat->Int->Option (Int) |0,_=>none |d+1,c=>cnd (decide (c<((a.map z0u).length:Int))) (jon (z2v n a i c (z1p n a i b d))<|reg<|idx a c fun e=>bnd (z1c n e.fScope (IntKind.wrap .i64 (i.fScopes-1))) fun f=>cnd (f) (z2v n a i c (z1p n a i b d) true)<|idx a c fun g=>bnd (z1c n g.fType 15) fun h=>cnd (h) (z2v n a i c (z1p n a i b d) true)<|idx a c fun j=>bnd (z1c n j.fVar (IntKind.wrap .i64 (i.fVars-1))) fun k=>z2v n a i c (z1p n a i b d) k)<|b
def zb9 (n:Nat)(b:z07)(a:(List z0w)):Option (Int):=cnd (decide (64<((a.map z0u).length:Int))) (some 5)<|z1p n a b (some 0) n 0
def z6c (n:Nat)(h:Int)(a:(List Int))(c:Int)(b:Option (Int)):Nat->Int->Option (Int) |0,_=>none |e+1,d=>cnd (decide (d<c)) (idx a d fun f=>idx a c fun g=>cnd (decide (f=g)) (some 7)<|(z6c n h a c b e) (IntKind.wrap .i64 (d+1)))<|b
def z40 (n:Nat)(g:Int)(a:(List Int))(c:Option (Int)):Nat->Int->Option (Int) |0,_=>none |d+1,b=>cnd (decide (b<((a.map aI).length:Int))) (idx a b fun e=>bnd (z1c n e (IntKind.wrap .i64 (g-1))) fun f=>cnd (f) (some 2)<|z6c n g a b ((z40 n g a c d) (IntKind.wrap .i64 (b+1))) n 0)<|c
def z97 (n:Nat)(b:(List Int))(a:Int):Option (Int):=z40 n a b (some 0) n 0
def z4q (n:Nat)(a:z0t)(b:Option (Int)):Nat->Int->Option (Int) |0,_=>none |d+1,c=>cnd (decide (c<((a.fLimits.map z23).length:Int))) (idx a.fLimits c fun e=>bnd (z1c n e.fSpan 1099511627776) fun f=>cnd (f) (some 2)<|(z4q n a b d) (IntKind.wrap .i64 (c+1)))<|b
def z29 (n:Nat)(a:z0t)(h:z07)(b:(List Int))(c:Option (Int)):Nat->Int->Option (Int) |0,_=>none |f+1,d=>cnd (decide (d<4)) (idx ([a.fOpens,a.fCloses,a.fInside,b]:List (List Int)) d fun g=>bnd (z97 n g h.fScopes) fun e=>cnd (!decide (e=0)) (some e)<|(z29 n a h b c f) (IntKind.wrap .i64 (d+1)))<|c
def z7m (n:Nat)(a:z0t)(g:z07)(c:(List Int)->Option (Int)):Nat->Int×(List Int)->Option (Int) |0,_=>none |d+1,b=>cnd (decide (b.1<((a.fLimits.map z23).length:Int))) (idx a.fLimits b.1 fun e=>app b.2 [e.fScope] 8 fun f=>(z7m n a g c d) ((IntKind.wrap .i64 (b.1+1)),f))<|c b.2
def z9y (n:Nat)(c:z07)(a:z0t):Option (Int):=z7m n a c (fun b=>frz 7026<|reg<|z29 n a c b (z4q n a (some 0) n 0) n 0) n (0,[])
def z8l (n:Nat)(a:z0t)(g:z07)(b:Option (Int)):Nat->Int->Option (Int) |0,_=>none |d+1,c=>cnd (decide (c<((a.fChecks.map idA).length:Int))) (idxD z1l a.fChecks c fun f=>bnd (z2z n f) fun e=>cnd (!decide (e=0)) (some e)<|(z8l n a g b d) (IntKind.wrap .i64 (c+1)))<|b
def z1a (n:Nat)(f:Int)(a:z0t)(e:z07)(b:Bool):Option (Int):=cnd (b) (some 2)<|cnd (decide (a.fFrom<f)) (some 14)<|bnd (z2z n a.fCond) fun d=>cnd (!decide (d=0)) (some d)<|cnd (decide (64<((a.fChecks.map idA).length:Int))) (some 5)<|z8l n a e (bnd (z9y n e a) fun c=>some c) n 0
def zcg (n:Nat)(h:z07)(a:z0t)(i:Int):Option (Int):=jon (z1a n i a h)<|reg<|bnd (z1c n a.fFrom (IntKind.wrap .i64 (((h.fStates.map z0s).length:Int)-1))) fun b=>cnd (b) (z1a n i a h true)<|cnd (!decide (a.fTo=(-1))) (bnd (z1c n a.fTo (IntKind.wrap .i64 (((h.fStates.map z0s).length:Int)-1))) fun c=>cnd (c) (z1a n i a h true)<|bnd (z1c n a.fVar (IntKind.wrap .i64 (h.fVars-1))) fun d=>cnd (d) (z1a n i a h true)<|bnd (z1c n a.fType 15) fun e=>z1a n i a h e)<|bnd (z1c n a.fVar (IntKind.wrap .i64 (h.fVars-1))) fun f=>cnd (f) (z1a n i a h true)<|bnd (z1c n a.fType 15) fun g=>z1a n i a h g
def z7n (n:Nat)(a:z07)(c:Option (Int)):Nat->Int×Int->Option (Int) |0,_=>none |d+1,b=>cnd (decide (b.2<((a.fEdges.map z0v).length:Int))) (idx a.fEdges b.2 fun f=>bnd (zcg n a f b.1) fun e=>cnd (!decide (e=0)) (some e)<|idx a.fEdges b.2 fun g=>(z7n n a c d) (g.fFrom,(IntKind.wrap .i64 (b.2+1))))<|c
def z7o (n:Nat)(a:z07)(b:Option (Int)):Nat->Int->Option (Int) |0,_=>none |d+1,c=>cnd (decide (c<((a.fStates.map z0s).length:Int))) (idx a.fStates c fun f=>bnd (zb9 n a f.fGuards) fun e=>cnd (!decide (e=0)) (some e)<|(z7o n a b d) (IntKind.wrap .i64 (c+1)))<|b
def z1u (n:Nat)(a:z07)(b:Bool):Option (Int):=cnd (b) (some 5)<|z7o n a (z7n n a (some 0) n (0,0)) n 0
def z2a (n:Nat)(a:z07)(b:Bool):Option (Int):=cnd (b) (some 2)<|jon (z1u n a)<|reg<|cnd (decide (((a.fStates.map z0s).length:Int)<1)) (z1u n a true)<|cnd (decide (256<((a.fStates.map z0s).length:Int))) (z1u n a true)<|z1u n a (decide (2048<((a.fEdges.map z0v).length:Int)))
def z56 (n:Nat)(a:z07):Option (Int):=jon (z2a n a)<|reg<|bnd (z1c n a.fVars 16) fun b=>cnd (b) (z2a n a true)<|bnd (z1c n a.fScopes 64) fun c=>z2a n a c
def zg7 (n:Nat)(b:z0k->Option (Int×Int))(a:z0k)(d:Int->Int->Option (Int×Int)):Nat->Int×Int×Int->Option (Int×Int) |0,_=>none |e+1,c=>cnd (decide (c.2.2<((a.fArgs.map idA).length:Int))) (idxD z1l a.fArgs c.2.2 fun g=>bnd (b g) fun f=>(zg7 n b a d e) ((IntKind.wrap .i64 (c.1+f.1)),(max c.2.1 f.2),(IntKind.wrap .i64 (c.2.2+1))))<|d c.1 c.2.1
def zg0:Nat->z0k->Option (Int×Int) |0,_=>none |n+1,a=>zg7 n (zg0 n) a (fun b c=>some (b,(IntKind.wrap .i64 (c+1)))) n (1,0,0)
def zdu (n:Nat)(a:Int)(b:Bool):Option (Int×Bool):=cnd (b) (some (0,false))<|cnd (decide (a<5)) (some (0,true))<|cnd (decide (a=12)) (some (1,true))<|some (2,true)
def zjk (n:Nat)(a:Int):Option (Int×Bool):=jon (zdu n a)<|reg<|cnd (decide (a<0)) (zdu n a true)<|zdu n a (decide (12<a))
def zf0 (n:Nat)(b:Bool):Option (Bool×Bool):=cnd (b) (some (true,false))<|some (false,false)
def zf1 (n:Nat)(a:Int)(b:Bool):Option (Bool×Bool):=cnd (b) (some (true,true))<|jon (zf0 n)<|reg<|cnd (decide (a=2)) (zf0 n (decide (a=2)))<|zf0 n (decide (a=3))
def zj2 (n:Nat)(a:Int):Option (Bool×Bool):=jon (zf1 n a)<|reg<|cnd (decide (a=1)) (zf1 n a (decide (a=1)))<|zf1 n a (decide (a=4))
def zgv (n:Nat)(a:z04):Option (Int):=cnd (decide (a.fKind=0)) (cnd (decide (a.fNum<(-1099511627776))) (some 2)<|cnd (decide (1099511627776<a.fNum)) (some 2)<|cnd (decide (a.fKind=1)) (cnd (!decide (a.fNum=0)) (cnd (!decide (a.fNum=1)) (some 2)<|cnd (decide (64<((a.fText.size:Nat):Int))) (some 13)<|some 0)<|cnd (decide (64<((a.fText.size:Nat):Int))) (some 13)<|some 0)<|cnd (decide (64<((a.fText.size:Nat):Int))) (some 13)<|some 0)<|cnd (decide (a.fKind=1)) (cnd (!decide (a.fNum=0)) (cnd (!decide (a.fNum=1)) (some 2)<|cnd (decide (64<((a.fText.size:Nat):Int))) (some 13)<|some 0)<|cnd (decide (64<((a.fText.size:Nat):Int))) (some 13)<|some 0)<|cnd (decide (64<((a.fText.size:Nat):Int))) (some 13)<|some 0
def zcp (n:Nat)(a:z04):Option (Int):=cnd (decide (a.fKind=0)) (cnd (decide (a.fKind=0)) (cnd (!(a.fText.toList == ByteArray.empty.toList)) (some 3)<|bnd (zgv n a) fun e=>some e)<|cnd (decide (a.fKind=2)) (cnd (!decide (a.fNum=0)) (some 3)<|bnd (zgv n a) fun d=>some d)<|some 1)<|cnd (decide (a.fKind=1)) (cnd (!(a.fText.toList == ByteArray.empty.toList)) (some 3)<|bnd (zgv n a) fun c=>some c)<|cnd (decide (a.fKind=2)) (cnd (!decide (a.fNum=0)) (some 3)<|bnd (zgv n a) fun b=>some b)<|some 1
def zbz (n:Nat)(b:Bool):Option (Bool):=some b
def zjj (n:Nat)(a:Int)(b:z04):Option (Bool):=jon (zbz n)<|reg<|cnd (decide (b.fKind=0)) (zbz n true)<|cnd (decide (a=4)) (zbz n true)<|zbz n (decide (a=5))
def z62 (n:Nat)(b:Bool):Option (Int):=cnd (b) (some 9)<|some 0
def zg2 (n:Nat)(a:z0k):Option (Int):=bnd (zcp n a.fValue) fun b=>cnd (!decide (b=0)) (some b)<|jon (z62 n)<|reg<|cnd (decide (a.fOp=4)) (bnd (zjj n a.fKind a.fValue) fun c=>cnd (!(c)) (z62 n true)<|cnd (decide (a.fKind=1)) (z62 n (!(decide (a.fValue.fKind=0) && (decide (a.fValue.fNum=0) && ((a.fValue.fText.toList == ByteArray.empty.toList) && true)))))<|z62 n false)<|z62 n false
def z17 (n:Nat)(b:Bool):Option (Int):=cnd (b) (some 3)<|some 0
def zf2 (n:Nat)(a:z0k)(c:Bool×Bool)(b:Bool)(_:Unit):Option (Int):=jon (z17 n)<|reg<|cnd (!(c.1)) (cnd (!decide (a.fVar=0)) (z17 n true)<|cnd (!(c.2)) (cnd (!decide (a.fField=0)) (z17 n true)<|cnd (!(decide (a.fOp=4))) (cnd (!decide (a.fKind=0)) (z17 n true)<|cnd (!(b)) (z17 n (!(decide (a.fValue.fKind=0) && (decide (a.fValue.fNum=0) && ((a.fValue.fText.toList == ByteArray.empty.toList) && true)))))<|z17 n false)<|cnd (!(b)) (z17 n (!(decide (a.fValue.fKind=0) && (decide (a.fValue.fNum=0) && ((a.fValue.fText.toList == ByteArray.empty.toList) && true)))))<|z17 n false)<|cnd (!(decide (a.fOp=4))) (cnd (!decide (a.fKind=0)) (z17 n true)<|cnd (!(b)) (z17 n (!(decide (a.fValue.fKind=0) && (decide (a.fValue.fNum=0) && ((a.fValue.fText.toList == ByteArray.empty.toList) && true)))))<|z17 n false)<|cnd (!(b)) (z17 n (!(decide (a.fValue.fKind=0) && (decide (a.fValue.fNum=0) && ((a.fValue.fText.toList == ByteArray.empty.toList) && true)))))<|z17 n false)<|cnd (!(c.2)) (cnd (!decide (a.fField=0)) (z17 n true)<|cnd (!(decide (a.fOp=4))) (cnd (!decide (a.fKind=0)) (z17 n true)<|cnd (!(b)) (z17 n (!(decide (a.fValue.fKind=0) && (decide (a.fValue.fNum=0) && ((a.fValue.fText.toList == ByteArray.empty.toList) && true)))))<|z17 n false)<|cnd (!(b)) (z17 n (!(decide (a.fValue.fKind=0) && (decide (a.fValue.fNum=0) && ((a.fValue.fText.toList == ByteArray.empty.toList) && true)))))<|z17 n false)<|cnd (!(decide (a.fOp=4))) (cnd (!decide (a.fKind=0)) (z17 n true)<|cnd (!(b)) (z17 n (!(decide (a.fValue.fKind=0) && (decide (a.fValue.fNum=0) && ((a.fValue.fText.toList == ByteArray.empty.toList) && true)))))<|z17 n false)<|cnd (!(b)) (z17 n (!(decide (a.fValue.fKind=0) && (decide (a.fValue.fNum=0) && ((a.fValue.fText.toList == ByteArray.empty.toList) && true)))))<|z17 n false
def zf3 (n:Nat)(a:z0k)(c:Bool×Bool)(b:Bool):Option (Int):=jon (zf2 n a c b)<|reg<|cnd (b) (bnd (zg2 n a) fun d=>cnd (!decide (d=0)) (some d)<|zf2 n a c b ())<|zf2 n a c b ()
def zcv (n:Nat)(a:z0k)(c:Bool×Bool)(b:Bool):Option (Int):=cnd (b) (some 1)<|jon (zf3 n a c)<|reg<|cnd (decide (a.fOp=4)) (zf3 n a c true)<|zf3 n a c (decide (a.fOp=0))
def z6n (n:Nat)(a:z0k)(c:Bool×Bool)(b:Bool):Option (Int):=cnd (b) (some 2)<|jon (zcv n a c)<|reg<|cnd (decide (a.fOp=4)) (cnd (decide (a.fKind<1)) (zcv n a c true)<|zcv n a c (decide (5<a.fKind)))<|zcv n a c false
def zko (n:Nat)(a:z0k):Option (Int):=bnd (zjk n a.fOp) fun c=>cnd (!(c.2)) (some 1)<|cnd (!decide (((a.fArgs.map idA).length:Int)=c.1)) (some 15)<|bnd (zj2 n a.fOp) fun b=>jon (z6n n a b)<|reg<|cnd (b.1) (cnd (decide (a.fVar<0)) (z6n n a b true)<|cnd (decide (16<=a.fVar)) (z6n n a b true)<|cnd (b.2) (cnd (decide (a.fField<0)) (z6n n a b true)<|z6n n a b (decide (8<=a.fField)))<|z6n n a b false)<|cnd (b.2) (cnd (decide (a.fField<0)) (z6n n a b true)<|z6n n a b (decide (8<=a.fField)))<|z6n n a b false
def zfl (n:Nat)(b:z0k->Option (Int))(a:z0k)(c:Option (Int)):Nat->Int->Option (Int) |0,_=>none |e+1,d=>cnd (decide (d<((a.fArgs.map idA).length:Int))) (idxD z1l a.fArgs d fun g=>bnd (b g) fun f=>cnd (!decide (f=0)) (some f)<|(zfl n b a c e) (IntKind.wrap .i64 (d+1)))<|c
def zej:Nat->z0k->Option (Int) |0,_=>none |n+1,b=>bnd (zko n b) fun a=>cnd (!decide (a=0)) (some a)<|zfl n (zej n) b (some 0) n 0
def zek (n:Nat)(b:z0k):Option (Int):=bnd (zg0 n b) fun a=>cnd (decide (64<a.1)) (some 5)<|cnd (decide (12<a.2)) (some 12)<|bnd (zej n b) fun c=>some c
def z8d (n:Nat)(b:Bool):Option (Bool):=some b
def z3v (n:Nat)(a:Int)(b:Int):Option (Bool):=jon (z8d n)<|reg<|cnd (decide (0<=a)) (z8d n (decide (a<b)))<|z8d n false
def zax (n:Nat)(b:z0w)(a:z0w):Option (Bool):=some (decide (b.fScope=a.fScope))
def za5 (n:Nat)(d:z0w)(a:(List z0w))(c:Option (Int)):Nat->Int->Option (Int) |0,_=>none |e+1,b=>cnd (decide (b<((a.map z0u).length:Int))) (idx a b fun f=>bnd (zax n f d) fun g=>cnd (g) (some b)<|(za5 n d a c e) (IntKind.wrap .i64 (b+1)))<|c
def zee (n:Nat)(a:(List z0w))(b:z0w):Option (Int):=za5 n b a (some (-1)) n 0
def za6 (n:Nat)(c:(List z0w))(b:z0w):Option (Bool):=bnd (zee n c b) fun a=>some (decide (0<=a))
def z59 (n:Nat)(a:(List z0w))(i:z07)(b:Int)(c:Int->Option (Int))(d:z0w)(f:Bool):Option (Int):=cnd (f) (some 2)<|sls a 0 b fun g=>bnd (za6 n g d) fun h=>cnd (h) (some 7)<|bnd (zek n d.fCond) fun e=>cnd (!decide (e=0)) (some e)<|c (IntKind.wrap .i64 (b+1))
def z32 (n:Nat)(a:(List z0w))(i:z07)(b:Option (Int)):Nat->Int->Option (Int) |0,_=>none |d+1,c=>cnd (decide (c<((a.map z0u).length:Int))) (idx a c fun e=>jon (z59 n a i c (z32 n a i b d) e)<|reg<|bnd (z3v n e.fScope i.fScopes) fun f=>cnd (!(f)) (z59 n a i c (z32 n a i b d) e true)<|bnd (z3v n e.fType 16) fun g=>cnd (!(g)) (z59 n a i c (z32 n a i b d) e true)<|bnd (z3v n e.fVar i.fVars) fun h=>z59 n a i c (z32 n a i b d) e !(h))<|b
def zem (n:Nat)(b:z07)(a:(List z0w)):Option (Int):=cnd (decide (64<((a.map z0u).length:Int))) (some 5)<|z32 n a b (some 0) n 0
def z9e (n:Nat)(a:(List z1j))(c:(List Int)->Option ((List Int))):Nat->Int×(List Int)->Option ((List Int)) |0,_=>none |d+1,b=>cnd (decide (b.1<((a.map z23).length:Int))) (idx a b.1 fun e=>app b.2 [e.fScope] 8 fun f=>(z9e n a c d) ((IntKind.wrap .i64 (b.1+1)),f))<|c b.2
def zbk (n:Nat)(a:(List z1j)):Option ((List Int)):=z9e n a (fun b=>some b) n (0,[])
def zcy (n:Nat)(f:Int)(a:(List Int))(c:Option (Int)):Nat->Int->Option (Int) |0,_=>none |d+1,b=>cnd (decide (b<((a.map aI).length:Int))) (idx a b fun e=>cnd (decide (f=e)) (some b)<|(zcy n f a c d) (IntKind.wrap .i64 (b+1)))<|c
def zj5 (n:Nat)(b:(List Int))(a:Int):Option (Int):=zcy n a b (some (-1)) n 0
def z8o (n:Nat)(c:(List Int))(b:Int):Option (Bool):=bnd (zj5 n c b) fun a=>some (decide (0<=a))
def z3w (n:Nat)(i:(List (List Int)))(a:z07)(g:Int)(d:(List Int))(c:Option (Int)):Nat->Int->Option (Int) |0,_=>none |e+1,b=>cnd (decide (b<((d.map aI).length:Int))) (idx d b fun f=>bnd (z3v n f a.fScopes) fun h=>cnd (!(h)) (some 2)<|sls d 0 b fun j=>bnd (z8o n j f) fun k=>cnd (k) (some 7)<|(z3w n i a g d c e) (IntKind.wrap .i64 (b+1)))<|c
def z58 (n:Nat)(a:(List (List Int)))(f:z07)(c:Option (Int)):Nat->Int->Option (Int) |0,_=>none |d+1,b=>cnd (decide (b<(((List.map (fun q=>AV.sl 1 (List.map aI q)) (a)).length:Nat):Int))) (idx a b fun e=>z3w n a f b e ((z58 n a f c d) (IntKind.wrap .i64 (b+1))) n 0)<|c
def zel (n:Nat)(b:z07)(a:(List (List Int))):Option (Int):=z58 n a b (some 0) n 0
def z8e (n:Nat)(b:Bool):Option (Bool):=some b
def zao (n:Nat)(a:z1j):Option (Bool):=jon (z8e n)<|reg<|cnd (decide (a.fSpan<0)) (z8e n true)<|z8e n (decide (1099511627776<a.fSpan))
def z6j (n:Nat)(a:(List z1j))(c:Option (Int)):Nat->Int->Option (Int) |0,_=>none |d+1,b=>cnd (decide (b<((a.map z23).length:Int))) (idx a b fun e=>bnd (zao n e) fun f=>cnd (f) (some b)<|(z6j n a c d) (IntKind.wrap .i64 (b+1)))<|c
def zbd (n:Nat)(a:(List z1j)):Option (Int):=z6j n a (some (-1)) n 0
def z6k (n:Nat)(b:(List z1j)):Option (Bool):=bnd (zbd n b) fun a=>some (decide (0<=a))
def zbl (n:Nat)(a:z0t)(g:z07)(b:Option (Int)):Nat->Int->Option (Int) |0,_=>none |d+1,c=>cnd (decide (c<((a.fChecks.map idA).length:Int))) (idxD z1l a.fChecks c fun f=>bnd (zek n f) fun e=>cnd (!decide (e=0)) (some e)<|(zbl n a g b d) (IntKind.wrap .i64 (c+1)))<|b
def z20 (n:Nat)(h:Int)(a:z0t)(g:z07)(c:Bool):Option (Int):=cnd (c) (some 2)<|cnd (decide (a.fFrom<h)) (some 14)<|bnd (zek n a.fCond) fun f=>cnd (!decide (f=0)) (some f)<|cnd (decide (64<((a.fChecks.map idA).length:Int))) (some 5)<|zbl n a g (bnd (zbk n a.fLimits) fun d=>bnd (zel n g ([a.fOpens,a.fCloses,a.fInside,d])) fun b=>cnd (!decide (b=0)) (some b)<|bnd (z6k n a.fLimits) fun e=>cnd (e) (some 2)<|some 0) n 0
def zg3 (n:Nat)(e:z07)(a:z0t)(f:Int):Option (Int):=jon (z20 n f a e)<|reg<|bnd (z3v n a.fFrom ((e.fStates.map z0s).length:Int)) fun b=>cnd (!(b)) (z20 n f a e true)<|cnd (decide (a.fTo<(-1))) (z20 n f a e true)<|cnd (decide (((e.fStates.map z0s).length:Int)<=a.fTo)) (z20 n f a e true)<|bnd (z3v n a.fVar e.fVars) fun c=>cnd (!(c)) (z20 n f a e true)<|bnd (z3v n a.fType 16) fun d=>z20 n f a e !(d)
def zay (n:Nat)(a:z07)(c:Option (Int)):Nat->Int×Int->Option (Int) |0,_=>none |d+1,b=>cnd (decide (b.2<((a.fEdges.map z0v).length:Int))) (idx a.fEdges b.2 fun e=>bnd (zg3 n a e b.1) fun f=>cnd (!decide (f=0)) (some f)<|(zay n a c d) (e.fFrom,(IntKind.wrap .i64 (b.2+1))))<|c
def zaz (n:Nat)(a:z07)(b:Option (Int)):Nat->Int->Option (Int) |0,_=>none |d+1,c=>cnd (decide (c<((a.fStates.map z0s).length:Int))) (idx a.fStates c fun f=>bnd (zem n a f.fGuards) fun e=>cnd (!decide (e=0)) (some e)<|(zaz n a b d) (IntKind.wrap .i64 (c+1)))<|b
def z3f (n:Nat)(a:z07)(b:Bool):Option (Int):=cnd (b) (some 5)<|zaz n a (zay n a (some 0) n (0,0)) n 0
def z2k (n:Nat)(a:z07)(b:Bool):Option (Int):=cnd (b) (some 2)<|jon (z3f n a)<|reg<|cnd (decide (((a.fStates.map z0s).length:Int)<1)) (z3f n a true)<|cnd (decide (256<((a.fStates.map z0s).length:Int))) (z3f n a true)<|z3f n a (decide (2048<((a.fEdges.map z0v).length:Int)))
def zbm (n:Nat)(a:z07):Option (Int):=jon (z2k n a)<|reg<|cnd (decide (a.fVars<0)) (z2k n a true)<|cnd (decide (16<a.fVars)) (z2k n a true)<|cnd (decide (a.fScopes<0)) (z2k n a true)<|z2k n a (decide (64<a.fScopes))
def z3q (n:Nat)(b:Bool):Option (Bool):=some b
def zar (n:Nat)(a:Int):Option (Bool):=jon (z3q n)<|reg<|cnd (decide (0<=a)) (z3q n (decide (a<=5)))<|z3q n false
structure z0p where
 fKind:Int
 fCount:Int
 fValue:z04
deriving DecidableEq,Inhabited
def z33 (x:z0p):AV:=.agg [aI (x.fKind),aI (x.fCount),aI (x.fValue.fKind),aI (x.fValue.fNum),.str (x.fValue.fText)]
abbrev zfc (x:z0p):List AV:=[aI (x.fKind),aI (x.fCount),aI (x.fValue.fKind),aI (x.fValue.fNum),.str (x.fValue.fText)]
def z2c (n:Nat)(b:Bool):Option (Int):=cnd (b) (some 3)<|some 0
def z4v (n:Nat)(b:Bool):Option (Int):=cnd (b) (some 3)<|some 0
def z4w (n:Nat)(a:z0p)(b:Bool):Option (Int):=cnd (b) (cnd (!(decide (a.fValue.fKind=0) && (decide (a.fValue.fNum=0) && ((a.fValue.fText.toList == ByteArray.empty.toList) && true)))) (some 3)<|some 0)<|cnd (decide (a.fKind=1)) (jon (z2c n)<|reg<|cnd (!decide (a.fValue.fKind=0)) (z2c n true)<|cnd (!(a.fValue.fText.toList == ByteArray.empty.toList)) (z2c n true)<|cnd (decide (a.fValue.fNum<(IntKind.wrap .i64 (0-(IntKind.wrap .i64 (a.fCount*1099511627776)))))) (z2c n true)<|z2c n (decide ((IntKind.wrap .i64 (a.fCount*1099511627776))<a.fValue.fNum)))<|jon (z4v n)<|reg<|bnd (z3r n a.fValue) fun d=>cnd (!decide (d=0)) (z4v n true)<|bnd (z89 n a.fKind a.fValue) fun c=>z4v n !(c)
def z4x (n:Nat)(a:z0p)(b:Bool):Option (Int):=cnd (b) (some 2)<|jon (z4w n a)<|reg<|cnd (decide (a.fCount=0)) (z4w n a true)<|z4w n a (decide (a.fKind=0))
def za2 (n:Nat)(a:z0p):Option (Int):=bnd (zar n a.fKind) fun b=>cnd (!(b)) (some 1)<|jon (z4x n a)<|reg<|cnd (decide (a.fCount<0)) (z4x n a true)<|z4x n a (decide (4096<a.fCount))
def za0 (n:Nat)(d:Int)(b:z04):Option (Int):=bnd (z3r n b) fun a=>cnd (!decide (a=0)) (some a)<|bnd (z89 n d b) fun c=>cnd (!(c)) (some 9)<|some 0
def zah (n:Nat)(a:Int)(c:z04)(b:z04):Option (z04):=cnd (decide (a=1)) (some (⟨0,(IntKind.wrap .i64 (c.fNum+b.fNum)),ByteArray.empty⟩))<|cnd (decide (a=2)) (some (⟨0,(min c.fNum b.fNum),ByteArray.empty⟩))<|cnd (decide (a=3)) (some (⟨0,(max c.fNum b.fNum),ByteArray.empty⟩))<|cnd (decide (a=4)) (some c)<|cnd (decide (a=5)) (some b)<|some (⟨0,0,ByteArray.empty⟩)
def z4j (n:Nat)(a:z0p)(b:Int×Int×ByteArray):Option (z0p×Int):=some (⟨a.fKind,(IntKind.wrap .i64 (a.fCount+1)),⟨b.1,b.2.1,b.2.2⟩⟩,0)
def zdg (n:Nat)(a:z0p)(b:z04):Option (z0p×Int):=bnd (za2 n a) fun e=>cnd (!decide (e=0)) (some (⟨0,0,⟨0,0,ByteArray.empty⟩⟩,e))<|bnd (za0 n a.fKind b) fun d=>cnd (!decide (d=0)) (some (⟨0,0,⟨0,0,ByteArray.empty⟩⟩,d))<|cnd (decide (a.fCount=4096)) (some (⟨0,0,⟨0,0,ByteArray.empty⟩⟩,5))<|jon (z4j n a)<|reg<|cnd (decide (a.fKind=0)) (z4j n a (0,0,ByteArray.empty))<|reg<|cnd (decide (0<a.fCount)) (bnd (zah n a.fKind a.fValue b) fun c=>z4j n a (c.fKind,c.fNum,c.fText))<|z4j n a (b.fKind,b.fNum,b.fText)
def z42 (n:Nat)(a:z04)(c:z0p)(b:Bool):Option (z04×Int):=cnd (b) (some (a,0))<|some (c.fValue,0)
def z9a (n:Nat)(a:z0p)(b:z04):Option (z04×Int):=bnd (za2 n a) fun d=>cnd (!decide (d=0)) (some (⟨0,0,ByteArray.empty⟩,d))<|bnd (za0 n a.fKind b) fun c=>cnd (!decide (c=0)) (some (⟨0,0,ByteArray.empty⟩,c))<|cnd (decide (a.fKind=0)) (some (⟨0,a.fCount,ByteArray.empty⟩,0))<|jon (z42 n b a)<|reg<|cnd (decide (a.fCount=0)) (z42 n b a (!decide (a.fKind=1)))<|z42 n b a false
def za1 (n:Nat)(g:z04)(a:(List z04))(d:Int->Int->Int->Int->ByteArray->Option (z04×Int)):Nat->Int×Int×Int×Int×Int×ByteArray->Option (z04×Int) |0,_=>none |e+1,b=>cnd (decide (b.1<((a.map z09).length:Int))) (idx a b.1 fun f=>bnd (zdg n (⟨b.2.1,b.2.2.1,⟨b.2.2.2.1,b.2.2.2.2.1,b.2.2.2.2.2⟩⟩:z0p) f) fun c=>cnd (!decide (c.2=0)) (some (⟨0,0,ByteArray.empty⟩,c.2))<|(za1 n g a d e) ((IntKind.wrap .i64 (b.1+1)),c.1.fKind,c.1.fCount,c.1.fValue.fKind,c.1.fValue.fNum,c.1.fValue.fText))<|d b.2.1 b.2.2.1 b.2.2.2.1 b.2.2.2.2.1 b.2.2.2.2.2
def zc3 (n:Nat)(i:Int)(h:(List z04))(a:z04):Option (z04×Int):=bnd (zar n i) fun j=>cnd (!(j)) (some (⟨0,0,ByteArray.empty⟩,1))<|cnd (decide (4096<((h.map z09).length:Int))) (some (⟨0,0,ByteArray.empty⟩,5))<|za1 n a h (fun b c d e f=>bnd (z9a n (⟨b,c,⟨d,e,f⟩⟩:z0p) a) fun g=>some (g.1,g.2)) n (0,i,0,0,0,ByteArray.empty)
structure z03 where
 fSource:Int
 fSeq:Int
 fType:Int
 fTime:Int
 fValues:(List z04)
deriving DecidableEq,Inhabited
def z02 (x:z03):AV:=.agg [aI (x.fSource),aI (x.fSeq),aI (x.fType),aI (x.fTime),.sl 3 (x.fValues.map z09)]
abbrev z19 (x:z03):List AV:=[aI (x.fSource),aI (x.fSeq),aI (x.fType),aI (x.fTime),.sl 3 (x.fValues.map z09)]
structure z0h where
 fVars:(List (List z03))
deriving DecidableEq,Inhabited
def zd6 (x:z0h):AV:=.agg [.sl 1 (List.map (fun q=>AV.sl 5 (List.map z02 q)) (x.fVars))]
abbrev zd7 (x:z0h):List AV:=[.sl 1 (List.map (fun q=>AV.sl 5 (List.map z02 q)) (x.fVars))]
def z41 (n:Nat)(c:Int)(d:z0h)(b:Bool):Option ((List z03)):=cnd (b) (some [])<|idx d.fVars c fun a=>some a
def z74 (n:Nat)(b:z0h)(a:Int):Option ((List z03)):=jon (z41 n a b)<|reg<|cnd (decide (a<0)) (z41 n a b true)<|z41 n a b (decide ((((List.map (fun q=>AV.sl 5 (List.map z02 q)) (b.fVars)).length:Nat):Int)<=a))
def zf6 (n:Nat)(f:z0h)(b:Int)(e:Int)(d:z03):Option (z03×Bool):=cnd (decide (b=e)) (some (d,true))<|bnd (z74 n (⟨f.fVars⟩:z0h) b) fun a=>cnd (decide (((a.map z02).length:Int)=0)) (some (⟨0,0,0,0,[]⟩,false))<|idx a (IntKind.wrap .i64 (((a.map z02).length:Int)-1)) fun c=>some (c,true)
def z8m (n:Nat)(i:z0k)(a:(List z03))(c:(List z04)->Option (z04×Int)):Nat->Int×(List z04)->Option (z04×Int) |0,_=>none |d+1,b=>cnd (decide (b.1<((a.map z02).length:Int))) (idx a b.1 fun e=>cnd (decide (((e.fValues.map z09).length:Int)<=i.fField)) (some (⟨0,0,ByteArray.empty⟩,6))<|idx a b.1 fun f=>idx f.fValues i.fField fun g=>app b.2 [g] 32 fun h=>(z8m n i a c d) ((IntKind.wrap .i64 (b.1+1)),h))<|c b.2
def zaq (n:Nat)(a:z0k)(h:z0h)(l:Int)(k:z03):Option (z04×Int):=cnd (decide (a.fOp=0)) (some (a.fValue,0))<|cnd (decide (a.fOp=3)) (bnd (z74 n (⟨h.fVars⟩:z0h) a.fVar) fun j=>some (⟨0,((j.map z02).length:Int),ByteArray.empty⟩,0))<|cnd (decide (a.fOp=4)) (bnd (z74 n (⟨h.fVars⟩:z0h) a.fVar) fun i=>z8m n a i (fun c=>bnd (zc3 n a.fKind c a.fValue) fun d=>some (d.1,d.2)) n (0,[]))<|bnd (zf6 n (⟨h.fVars⟩:z0h) a.fVar l k) fun b=>cnd (!(b.2)) (some (⟨0,0,ByteArray.empty⟩,10))<|cnd (decide (a.fOp=2)) (some (⟨0,b.1.fTime,ByteArray.empty⟩,0))<|cnd (decide (((b.1.fValues.map z09).length:Int)<=a.fField)) (some (⟨0,0,ByteArray.empty⟩,6))<|idx b.1.fValues a.fField fun f=>bnd (z3r n f) fun e=>cnd (!decide (e=0)) (some (⟨0,0,ByteArray.empty⟩,e))<|idx b.1.fValues a.fField fun g=>some (g,0)
def z26 (n:Nat)(b:Bool):Option (Int):=cnd (b) (some 1)<|some (-1)
def z1r (n:Nat)(a:Int)(b:Bool):Option (Int):=cnd (b) (some 0)<|jon (z26 n)<|reg<|cnd (decide (a=10)) (z26 n (decide (a=10)))<|reg<|cnd (decide (a=11)) (z26 n (decide (a=11)))<|z26 n (decide (a=12))
def z9z (n:Nat)(a:Int):Option (Int):=jon (z1r n a)<|reg<|cnd (decide (a=5)) (z1r n a (decide (a=5)))<|reg<|cnd (decide (a=6)) (z1r n a (decide (a=6)))<|reg<|cnd (decide (a=7)) (z1r n a (decide (a=7)))<|z1r n a (decide (a=8))
def z1k (n:Nat)(a:(List Int))(e:Int)(c:Int)(b:Int->Option (Int))(d:Bool):Option (Int):=cnd (d) (some 9)<|b (IntKind.wrap .i64 (c+1))
def z1d (n:Nat)(a:(List Int))(i:Int)(b:Option (Int)):Nat->Int->Option (Int) |0,_=>none |d+1,c=>cnd (decide (c<((a.map aI).length:Int))) (bnd (z9z n i) fun e=>jon (z1k n a i c (z1d n a i b d))<|reg<|cnd (decide (0<=e)) (idx a c fun f=>cnd (!decide (f=e)) (z1k n a i c (z1d n a i b d) true)<|cnd (decide (i=9)) (idx a c fun g=>idx a 0 fun h=>z1k n a i c (z1d n a i b d) (!decide (g=h)))<|z1k n a i c (z1d n a i b d) false)<|cnd (decide (i=9)) (idx a c fun j=>idx a 0 fun k=>z1k n a i c (z1d n a i b d) (!decide (j=k)))<|z1k n a i c (z1d n a i b d) false)<|b
def zc2 (n:Nat)(b:Int)(a:(List Int)):Option (Int):=z1d n a b (some 0) n 0
def z1m (n:Nat)(a:Bool):Option (z04):=cnd (a) (some (⟨1,1,ByteArray.empty⟩))<|some (⟨1,0,ByteArray.empty⟩)
def z4s (n:Nat)(b:Int×Int×ByteArray):Option (z04):=some (⟨b.1,b.2.1,b.2.2⟩)
def z4r (n:Nat)(b:Int×Int×ByteArray):Option (z04):=some (⟨b.1,b.2.1,b.2.2⟩)
def z88 (n:Nat)(i:Int)(a:(List z04)):Option (z04):=cnd (decide (i=5)) (idx a 0 fun z=>idx a 1 fun y=>some (⟨0,(IntKind.wrap .i64 (z.fNum+y.fNum)),ByteArray.empty⟩))<|cnd (decide (i=6)) (idx a 0 fun x=>idx a 1 fun w=>some (⟨0,(IntKind.wrap .i64 (x.fNum-w.fNum)),ByteArray.empty⟩))<|cnd (decide (i=7)) (idx a 0 fun v=>idx a 1 fun u=>bnd (z1m n (decide (v.fNum<u.fNum))) fun t=>some t)<|cnd (decide (i=8)) (idx a 0 fun r=>idx a 1 fun m=>bnd (z1m n (decide (r.fNum<=m.fNum))) fun h=>some h)<|cnd (decide (i=9)) (idx a 0 fun b=>idx a 1 fun c=>bnd (z1m n (decide (b.fKind=c.fKind) && (decide (b.fNum=c.fNum) && ((b.fText.toList == c.fText.toList) && true)))) fun j=>some j)<|cnd (decide (i=10)) (jon (z4s n)<|reg<|idx a 0 fun k=>cnd (decide (k.fNum=1)) (idx a 1 fun l=>bnd (z1m n (decide (l.fNum=1))) fun d=>z4s n (d.fKind,d.fNum,d.fText))<|bnd (z1m n false) fun e=>z4s n (e.fKind,e.fNum,e.fText))<|cnd (decide (i=11)) (jon (z4r n)<|reg<|idx a 0 fun o=>cnd (decide (o.fNum=1)) (bnd (z1m n true) fun f=>z4r n (f.fKind,f.fNum,f.fText))<|idx a 1 fun p=>bnd (z1m n (decide (p.fNum=1))) fun g=>z4r n (g.fKind,g.fNum,g.fText))<|idx a 0 fun q=>bnd (z1m n (!decide (q.fNum=1))) fun s=>some s
def z8n (n:Nat)(b:z0k->z0h->Int->z03->Option (z04×Int))(i:z03)(k:Int)(l:z0h)(a:z0k)(d:(List z04)->(List Int)->Option (z04×Int)):Nat->Int×(List z04)×(List Int)->Option (z04×Int) |0,_=>none |f+1,c=>cnd (decide (c.1<((a.fArgs.map idA).length:Int))) (idxD z1l a.fArgs c.1 fun g=>bnd (b g (⟨l.fVars⟩:z0h) k i) fun e=>cnd (!decide (e.2=0)) (some (⟨0,0,ByteArray.empty⟩,e.2))<|app c.2.1 [e.1] 32 fun h=>app c.2.2 [e.1.fKind] 8 fun j=>(z8n n b i k l a d f) ((IntKind.wrap .i64 (c.1+1)),h,j))<|d c.2.1 c.2.2
def z4m:Nat->z0k->z0h->Int->z03->Option (z04×Int) |0,_,_,_,_=>none |n+1,a,i,h,g=>cnd (decide (((a.fArgs.map idA).length:Int)=0)) (bnd (zaq n a (⟨i.fVars⟩:z0h) h g) fun f=>some (f.1,f.2))<|z8n n (z4m n) g h i a (fun b c=>bnd (zc2 n a.fOp c) fun d=>cnd (!decide (d=0)) (some (⟨0,0,ByteArray.empty⟩,d))<|bnd (z88 n a.fOp b) fun e=>some (e,0)) n (0,[],[])
def zf7 (n:Nat)(c:z0k)(f:z0h)(e:Int)(d:z03):Option (z04×Int):=bnd (z2z n c) fun b=>cnd (!decide (b=0)) (some (⟨0,0,ByteArray.empty⟩,b))<|bnd (z4m n c (⟨f.fVars⟩:z0h) e d) fun a=>some (a.1,a.2)
def z4t (n:Nat)(b:Bool):Option (Bool):=some b
def z2w (n:Nat)(f:z0k)(e:z0h)(d:Int)(c:z03):Option (Bool):=bnd (zf7 n f (⟨e.fVars⟩:z0h) d c) fun a=>jon (z4t n)<|reg<|cnd (decide (a.2=0)) (bnd (z1m n true) fun b=>z4t n (decide (a.1.fKind=b.fKind) && (decide (a.1.fNum=b.fNum) && ((a.1.fText.toList == b.fText.toList) && true))))<|z4t n false
structure z18 where
 fTime:Int
 fSource:Int
 fSeq:Int
deriving DecidableEq,Inhabited
def z14 (x:z18):AV:=.agg [aI (x.fTime),aI (x.fSource),aI (x.fSeq)]
abbrev yjr (x:z18):List AV:=[aI (x.fTime),aI (x.fSource),aI (x.fSeq)]
structure z0g where
 fVar:Int
 fRef:z18
deriving DecidableEq,Inhabited
def z0b (x:z0g):AV:=.agg [aI (x.fVar),aI (x.fRef.fTime),aI (x.fRef.fSource),aI (x.fRef.fSeq)]
abbrev y65 (x:z0g):List AV:=[aI (x.fVar),aI (x.fRef.fTime),aI (x.fRef.fSource),aI (x.fRef.fSeq)]
structure z06 where
 fBindings:(List z0g)
deriving DecidableEq,Inhabited
def z0c (x:z06):AV:=.agg [.sl 4 (x.fBindings.map z0b)]
abbrev zew (x:z06):List AV:=[.sl 4 (x.fBindings.map z0b)]
def za3 (n:Nat)(b:z18)(a:z18):Option (Int):=cnd (!decide (b.fTime=a.fTime)) (cnd (decide (b.fTime<a.fTime)) (some (-1))<|some 1)<|cnd (!decide (b.fSource=a.fSource)) (cnd (decide (b.fSource<a.fSource)) (some (-1))<|some 1)<|cnd (decide (b.fSeq<a.fSeq)) (some (-1))<|cnd (decide (a.fSeq<b.fSeq)) (some 1)<|some 0
def zbu (n:Nat)(b:z0g)(a:z0g):Option (Int):=bnd (za3 n (⟨b.fRef.fTime,b.fRef.fSource,b.fRef.fSeq⟩:z18) (⟨a.fRef.fTime,a.fRef.fSource,a.fRef.fSeq⟩:z18)) fun c=>cnd (!decide (c=0)) (some c)<|cnd (decide (b.fVar<a.fVar)) (some (-1))<|cnd (decide (a.fVar<b.fVar)) (some 1)<|some 0
def z3j (n:Nat)(a:z06)(i:z06)(b:Int)(e:Option (Int))(f:Int->Option (Int))(h:Bool):Option (Int):=cnd (h) (idx i.fBindings b fun c=>idx a.fBindings b fun d=>bnd (zbu n (⟨c.fVar,⟨c.fRef.fTime,c.fRef.fSource,c.fRef.fSeq⟩⟩:z0g) (⟨d.fVar,⟨d.fRef.fTime,d.fRef.fSource,d.fRef.fSeq⟩⟩:z0g)) fun g=>cnd (!decide (g=0)) (some g)<|f (IntKind.wrap .i64 (b+1)))<|e
def z2j (n:Nat)(a:z06)(e:z06)(b:Option (Int)):Nat->Int->Option (Int) |0,_=>none |d+1,c=>jon (z3j n a e c b (z2j n a e b d))<|reg<|cnd (decide (c<((e.fBindings.map z0b).length:Int))) (z3j n a e c b (z2j n a e b d) (decide (c<((a.fBindings.map z0b).length:Int))))<|z3j n a e c b (z2j n a e b d) false
def z5s (n:Nat)(b:z06)(a:z06):Option (Int):=z2j n a b (cnd (decide (((b.fBindings.map z0b).length:Int)<((a.fBindings.map z0b).length:Int))) (some (-1))<|cnd (decide (((a.fBindings.map z0b).length:Int)<((b.fBindings.map z0b).length:Int))) (some 1)<|some 0) n 0
structure z0a where
 fScope:Int
 fTime:Int
deriving DecidableEq,Inhabited
def z08 (x:z0a):AV:=.agg [aI (x.fScope),aI (x.fTime)]
abbrev zuy (x:z0a):List AV:=[aI (x.fScope),aI (x.fTime)]
structure z00 where
 fState:Int
 fBindings:(List z0g)
 fStarts:(List z0a)
deriving DecidableEq,Inhabited
def z01 (x:z00):AV:=.agg [aI (x.fState),.sl 4 (x.fBindings.map z0b),.sl 2 (x.fStarts.map z08)]
abbrev z0x (x:z00):List AV:=[aI (x.fState),.sl 4 (x.fBindings.map z0b),.sl 2 (x.fStarts.map z08)]
def z2i (n:Nat)(a:z00)(g:z00)(e:Int)(b:Int->Option (Int))(c:z0a)(d:z0a)(f:Bool):Option (Int):=cnd (f) (some (-1))<|cnd (!(decide (c.fScope=d.fScope) && (decide (c.fTime=d.fTime) && true))) (some 1)<|b (IntKind.wrap .i64 (e+1))
def z3i (n:Nat)(a:z00)(h:z00)(b:Int)(f:Option (Int))(c:Int->Option (Int))(g:Bool):Option (Int):=cnd (g) (idx h.fStarts b fun d=>idx a.fStarts b fun e=>jon (z2i n a h b c d e)<|reg<|cnd (decide (d.fScope<e.fScope)) (z2i n a h b c d e true)<|cnd (decide (d.fScope=e.fScope)) (z2i n a h b c d e (decide (d.fTime<e.fTime)))<|z2i n a h b c d e false)<|f
def z2h (n:Nat)(a:z00)(e:z00)(b:Option (Int)):Nat->Int->Option (Int) |0,_=>none |d+1,c=>jon (z3i n a e c b (z2h n a e b d))<|reg<|cnd (decide (c<((e.fStarts.map z08).length:Int))) (z3i n a e c b (z2h n a e b d) (decide (c<((a.fStarts.map z08).length:Int))))<|z3i n a e c b (z2h n a e b d) false
def z5o (n:Nat)(b:z00)(a:z00):Option (Int):=cnd (!decide (b.fState=a.fState)) (cnd (decide (b.fState<a.fState)) (some (-1))<|some 1)<|bnd (z5s n (⟨b.fBindings⟩:z06) (⟨a.fBindings⟩:z06)) fun c=>cnd (!decide (c=0)) (some c)<|z2h n a b (cnd (decide (((b.fStarts.map z08).length:Int)<((a.fStarts.map z08).length:Int))) (some (-1))<|cnd (decide (((a.fStarts.map z08).length:Int)<((b.fStarts.map z08).length:Int))) (some 1)<|some 0) n 0
def z6w (n:Nat)(i:z00)(a:(List z00))(b:Int)(c:Bool):Option ((List z00)):=cnd (c) (some a)<|sls a 0 b fun d=>app ([]:List z00) d 56 fun e=>app e [i] 56 fun f=>sls a b ((a.map z01).length:Int) fun g=>app f g 56 fun h=>some h
def z6v (n:Nat)(a:z00)(f:(List z00))(b:Int)(c:Int->Option ((List z00)))(d:Int->Option ((List z00)))(e:Bool):Option ((List z00)):=cnd (e) (d (IntKind.wrap .i64 (b+1)))<|c b
def z4e (n:Nat)(g:z00)(a:(List z00))(b:Int->Option ((List z00))):Nat->Int->Option ((List z00)) |0,_=>none |d+1,c=>jon (z6v n g a c b (z4e n g a b d))<|reg<|cnd (decide (c<((a.map z01).length:Int))) (idx a c fun e=>bnd (z5o n e g) fun f=>z6v n g a c b (z4e n g a b d) (decide (f<0)))<|z6v n g a c b (z4e n g a b d) false
def z9n (n:Nat)(a:(List z00))(e:z00):Option ((List z00)):=z4e n e a (fun b=>jon (z6w n e a b)<|reg<|cnd (decide (b<((a.map z01).length:Int))) (idx a b fun c=>bnd (z5o n c e) fun d=>z6w n e a b (decide (d=0)))<|z6w n e a b false) n 0
def z6r (n:Nat)(b:Bool):Option (Bool):=some b
def zd3 (n:Nat)(a:Int):Option (Bool):=jon (z6r n)<|reg<|cnd (decide (0<=a)) (z6r n (decide (a<=5)))<|z6r n false
def z4n (n:Nat)(b:Bool):Option (Bool):=some b
def zd2 (n:Nat)(a:Int)(b:z04):Option (Bool):=jon (z4n n)<|reg<|cnd (decide (b.fKind=0)) (z4n n true)<|cnd (!decide (a=1)) (cnd (!decide (a=2)) (z4n n (!decide (a=3)))<|z4n n false)<|z4n n false
def zbn (n:Nat)(d:Int)(b:z04):Option (Int):=bnd (zcp n b) fun a=>cnd (!decide (a=0)) (some a)<|bnd (zd2 n d b) fun c=>cnd (!(c)) (some 9)<|some 0
def zgj (n:Nat)(b:Int)(a:z04):Option (z04):=cnd (decide (b=0)) (some (⟨0,0,ByteArray.empty⟩))<|some a
def zet (n:Nat):Option (z04):=some (⟨0,0,ByteArray.empty⟩)
def zes (n:Nat)(b:z04)(a:z04):Option (z04×z04×z04):=some (⟨0,(IntKind.wrap .i64 (b.fNum+a.fNum)),ByteArray.empty⟩,b,a)
def zer (n:Nat)(b:z04)(a:z04):Option (z04×z04×z04):=some (⟨0,(min b.fNum a.fNum),ByteArray.empty⟩,b,a)
def zeq (n:Nat)(b:z04)(a:z04):Option (z04×z04×z04):=some (⟨0,(max b.fNum a.fNum),ByteArray.empty⟩,b,a)
def zep (n:Nat)(a:z04):Option (z04×z04):=some (a,a)
def zeo (n:Nat)(a:z04):Option (z04×z04):=some (a,a)
def zdw (n:Nat)(a:Int)(c:z04)(b:z04):Option (z04):=natc a 0 (bnd (zet n) fun i=>some i)<|natc a 1 (bndM 15 (zes n c b) fun h=>some h.1)<|natc a 2 (bndM 15 (zer n c b) fun g=>some g.1)<|natc a 3 (bndM 15 (zeq n c b) fun f=>some f.1)<|natc a 4 (bndM 15 (zep n c) fun e=>some e.1)<|natc a 5 (bndM 15 (zeo n b) fun d=>some d.1)<|none
def zgk (n:Nat)(a:z0p)(b:z0p):Option (z0p):=cnd (decide (a.fCount=0)) (some b)<|cnd (decide (b.fCount=0)) (some a)<|bnd (zdw n a.fKind a.fValue b.fValue) fun c=>some (⟨a.fKind,(IntKind.wrap .i64 (a.fCount+b.fCount)),c⟩)
def zhy (n:Nat)(e:z0p)(d:z04)(a:Int):Option (z0p):=bnd (zgj n a d) fun c=>bnd (zgk n e (⟨a,1,c⟩:z0p)) fun b=>some b
def zaa (n:Nat)(e:Int)(a:(List z04))(c:Int->Int->Int->Int->ByteArray->Option (z0p)):Nat->Int×Int×Int×Int×Int×ByteArray->Option (z0p) |0,_=>none |f+1,b=>cnd (decide (b.1<((a.map z09).length:Int))) (idx a b.1 fun g=>bnd (zhy n (⟨b.2.1,b.2.2.1,⟨b.2.2.2.1,b.2.2.2.2.1,b.2.2.2.2.2⟩⟩:z0p) g e) fun d=>(zaa n e a c f) ((IntKind.wrap .i64 (b.1+1)),d.fKind,d.fCount,d.fValue.fKind,d.fValue.fNum,d.fValue.fText))<|c b.2.1 b.2.2.1 b.2.2.2.1 b.2.2.2.2.1 b.2.2.2.2.2
def zen (n:Nat)(a:z0p)(h:(List z04))(g:Int):Option (z0p):=zaa n g h (fun b c d e f=>some (⟨b,c,⟨d,e,f⟩⟩)) n (0,a.fKind,a.fCount,a.fValue.fKind,a.fValue.fNum,a.fValue.fText)
def z8y (n:Nat)(a:z0p)(b:Bool):Option (Int):=cnd (b) (some 2)<|reg<|cnd (decide (a.fCount=0)) (cnd (!((decide (a.fValue.fKind=0) && (decide (a.fValue.fNum=0) && ((a.fValue.fText.toList == ByteArray.empty.toList) && true))))) (some 3)<|some 0)<|cnd (decide (a.fKind=0)) (cnd (!((decide (a.fValue.fKind=0) && (decide (a.fValue.fNum=0) && ((a.fValue.fText.toList == ByteArray.empty.toList) && true))))) (some 3)<|some 0)<|reg<|cnd (decide (a.fKind=1)) (reg<|cnd (decide (a.fValue.fKind=0)) (cnd ((a.fValue.fText.toList == ByteArray.empty.toList)) (cnd (decide ((IntKind.wrap .i64 (0-(IntKind.wrap .i64 (a.fCount*1099511627776))))<=a.fValue.fNum)) (cnd (!(decide (a.fValue.fNum<=(IntKind.wrap .i64 (a.fCount*1099511627776))))) (some 3)<|some 0)<|some 3)<|some 3)<|some 3)<|reg<|bnd (zcp n a.fValue) fun d=>cnd (decide (d=0)) (bnd (zd2 n a.fKind a.fValue) fun c=>cnd (!(c)) (some 3)<|some 0)<|some 3
def zfm (n:Nat)(a:z0p):Option (Int):=bnd (zd3 n a.fKind) fun b=>cnd (!(b)) (some 1)<|jon (z8y n a)<|reg<|cnd (decide (a.fCount<0)) (z8y n a true)<|z8y n a (decide (4096<a.fCount))
def z8f (n:Nat)(a:z04)(c:z0p)(b:Bool):Option (z04×Int):=cnd (b) (some (a,0))<|some (c.fValue,0)
def zc9 (n:Nat)(a:z0p)(b:z04):Option (z04×Int):=bnd (zfm n a) fun d=>cnd (!decide (d=0)) (some (⟨0,0,ByteArray.empty⟩,d))<|bnd (zbn n a.fKind b) fun c=>cnd (!decide (c=0)) (some (⟨0,0,ByteArray.empty⟩,c))<|cnd (decide (a.fKind=0)) (some (⟨0,a.fCount,ByteArray.empty⟩,0))<|jon (z8f n b a)<|reg<|cnd (decide (a.fCount=0)) (z8f n b a (!decide (a.fKind=1)))<|z8f n b a false
def zd4 (n:Nat)(h:z04)(a:(List z04))(g:Int)(b:Option (z04×Int)):Nat->Int->Option (z04×Int) |0,_=>none |d+1,c=>cnd (decide (c<((a.map z09).length:Int))) (idx a c fun f=>bnd (zbn n g f) fun e=>cnd (!decide (e=0)) (some (⟨0,0,ByteArray.empty⟩,e))<|(zd4 n h a g b d) (IntKind.wrap .i64 (c+1)))<|b
def zg9 (n:Nat)(a:Int)(d:(List z04))(e:z04):Option (z04×Int):=bnd (zd3 n a) fun f=>cnd (!(f)) (some (⟨0,0,ByteArray.empty⟩,1))<|cnd (decide (4096<((d.map z09).length:Int))) (some (⟨0,0,ByteArray.empty⟩,5))<|zd4 n e d a (bnd (zen n (⟨a,0,⟨0,0,ByteArray.empty⟩⟩:z0p) d a) fun c=>bnd (zc9 n c e) fun b=>some (b.1,b.2)) n 0
def zkq (n:Nat)(a:Int):Option (Bool):=some (!decide (a=a))
def z3a (n:Nat)(b:Int)(a:Int):Option (Int):=bnd (zkq n b) fun d=>bnd (zkq n a) fun c=>cnd (d) (cnd (c) (some 0)<|some (-1))<|cnd (c) (some 1)<|cnd (decide (b<a)) (some (-1))<|cnd (decide (a<b)) (some 1)<|some 0
def zj3 (n:Nat)(a:(List Int))(b:Option (Int)):Nat->Int->Option (Int) |0,_=>none |d+1,c=>cnd (decide (c<((a.map aI).length:Int))) (idx a c fun e=>cnd (!decide (e=0)) (some e)<|(zj3 n a b d) (IntKind.wrap .i64 (c+1)))<|b
def zhx (n:Nat)(a:(List Int)):Option (Int):=zj3 n a (some 0) n 0
def zji (n:Nat)(b:z18)(a:z18):Option (Int):=bnd (z3a n b.fTime a.fTime) fun f=>bnd (z3a n b.fSource a.fSource) fun e=>bnd (z3a n b.fSeq a.fSeq) fun d=>bnd (zhx n ([f,e,d])) fun c=>some c
def zfj (n:Nat)(b:z0g)(a:z0g):Option (Int):=bnd (zji n (⟨b.fRef.fTime,b.fRef.fSource,b.fRef.fSeq⟩:z18) (⟨a.fRef.fTime,a.fRef.fSource,a.fRef.fSeq⟩:z18)) fun e=>bnd (z3a n b.fVar a.fVar) fun d=>bnd (zhx n ([e,d])) fun c=>some c
def z8p (n:Nat)(a:(List z0g))(h:(List z0g))(c:Option (Int)):Nat->Int->Option (Int) |0,_=>none |f+1,b=>cnd (decide (b<((h.map z0b).length:Int))) (idx h b fun d=>cnd (decide (((a.map z0b).length:Int)<=b)) (some 1)<|idx a b fun e=>bnd (zfj n (⟨d.fVar,⟨d.fRef.fTime,d.fRef.fSource,d.fRef.fSeq⟩⟩:z0g) (⟨e.fVar,⟨e.fRef.fTime,e.fRef.fSource,e.fRef.fSeq⟩⟩:z0g)) fun g=>cnd (!decide (g=0)) (some g)<|(z8p n a h c f) (IntKind.wrap .i64 (b+1)))<|c
def zci (n:Nat)(b:(List z0g))(a:(List z0g)):Option (Int):=z8p n a b (cnd (decide (((b.map z0b).length:Int)<((a.map z0b).length:Int))) (some (-1))<|some 0) n 0
def zfk (n:Nat)(c:z06)(b:z06):Option (Int):=bnd (zci n c.fBindings b.fBindings) fun a=>some a
def zh0 (n:Nat)(b:z0a)(a:z0a):Option (Int):=bnd (z3a n b.fScope a.fScope) fun e=>bnd (z3a n b.fTime a.fTime) fun d=>bnd (zhx n ([e,d])) fun c=>some c
def z4z (n:Nat)(a:(List z0a))(h:(List z0a))(c:Option (Int)):Nat->Int->Option (Int) |0,_=>none |d+1,b=>cnd (decide (b<((h.map z08).length:Int))) (idx h b fun f=>cnd (decide (((a.map z08).length:Int)<=b)) (some 1)<|idx a b fun g=>bnd (zh0 n f g) fun e=>cnd (!decide (e=0)) (some e)<|(z4z n a h c d) (IntKind.wrap .i64 (b+1)))<|c
def za7 (n:Nat)(b:(List z0a))(a:(List z0a)):Option (Int):=z4z n a b (cnd (decide (((b.map z08).length:Int)<((a.map z08).length:Int))) (some (-1))<|some 0) n 0
def zif (n:Nat)(b:z00)(a:z00):Option (Int):=bnd (z3a n b.fState a.fState) fun f=>bnd (zfk n (⟨b.fBindings⟩:z06) (⟨a.fBindings⟩:z06)) fun e=>bnd (za7 n b.fStarts a.fStarts) fun d=>bnd (zhx n ([f,e,d])) fun c=>some c
def z8b (n:Nat)(b:Bool):Option (Bool):=some b
def zjf (n:Nat)(a:z03):Option (Bool):=jon (z8b n)<|reg<|cnd (decide (0<=a.fTime)) (cnd (decide (a.fTime<=1099511627776)) (cnd (decide (0<=a.fSource)) (cnd (decide (a.fSource<8)) (cnd (decide (0<=a.fSeq)) (z8b n (decide (a.fSeq<=1099511627776)))<|z8b n false)<|z8b n false)<|z8b n false)<|z8b n false)<|z8b n false
def zje (n:Nat)(a:z03):Option (z18):=some (⟨a.fTime,a.fSource,a.fSeq⟩)
def ziy (n:Nat)(b:z18)(a:z18):Option (Int):=bnd (z3a n b.fTime a.fTime) fun f=>bnd (z3a n b.fSource a.fSource) fun e=>bnd (z3a n b.fSeq a.fSeq) fun d=>bnd (zhx n ([f,e,d])) fun c=>some c
def zgy (n:Nat)(b:z0g)(d:z03):Option (Bool):=bnd (zje n d) fun a=>bnd (ziy n (⟨b.fRef.fTime,b.fRef.fSource,b.fRef.fSeq⟩:z18) (⟨a.fTime,a.fSource,a.fSeq⟩:z18)) fun c=>some (decide (0<=c))
def z6h (n:Nat)(e:z03)(a:(List z0g))(c:Option (Int)):Nat->Int->Option (Int) |0,_=>none |f+1,b=>cnd (decide (b<((a.map z0b).length:Int))) (idx a b fun d=>bnd (zgy n (⟨d.fVar,⟨d.fRef.fTime,d.fRef.fSource,d.fRef.fSeq⟩⟩:z0g) e) fun g=>cnd (g) (some b)<|(z6h n e a c f) (IntKind.wrap .i64 (b+1)))<|c
def zbb (n:Nat)(a:(List z0g))(b:z03):Option (Int):=z6h n b a (some (-1)) n 0
def z9i (n:Nat)(c:(List z0g))(b:z03):Option (Bool):=bnd (zbb n c b) fun a=>some (decide (0<=a))
def zth (n:Nat)(c:z00)(b:z03):Option (Bool):=bnd (z9i n c.fBindings b) fun a=>some a
def zgz (n:Nat)(c:z00)(b:z03):Option (Bool):=bnd (zth n c b) fun a=>some a
def z6i (n:Nat)(d:z03)(a:(List z00))(c:Option (Int)):Nat->Int->Option (Int) |0,_=>none |e+1,b=>cnd (decide (b<((a.map z01).length:Int))) (idx a b fun f=>bnd (zgz n f d) fun g=>cnd (g) (some b)<|(z6i n d a c e) (IntKind.wrap .i64 (b+1)))<|c
def zbc (n:Nat)(a:(List z00))(b:z03):Option (Int):=z6i n b a (some (-1)) n 0
def z9j (n:Nat)(c:(List z00))(b:z03):Option (Bool):=bnd (zbc n c b) fun a=>some (decide (0<=a))
def ziz (n:Nat)(d:(List z00))(a:z03):Option (Int):=bnd (zjf n a) fun c=>cnd (!(c)) (some 2)<|bnd (z9j n d a) fun b=>cnd (b) (some 14)<|some 0
attribute [irreducible] z4u z1g z1w z3n z5t z2b z0i z2m z5u z5v z3p z1e z6y z2v z1a z1u z2a zdu zf0 zf1 zbz z62 z17 zf2 zf3 zcv z6n z8d z59 z8e z20 z3f z2k z3q z2c z4v z4w z4x z4j z42 z41 z26 z1r z1k z4s z4r z4t z3j z2i z3i z6w z6v z6r z4n z8y z8f z8b
end Go.Proofs.YtidhlpjgifoneaaGreat
