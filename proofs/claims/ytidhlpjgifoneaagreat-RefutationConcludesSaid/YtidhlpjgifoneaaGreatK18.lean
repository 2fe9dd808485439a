/- What some functions compute, over plain values. -/
import Derived.Test.YtidhlpjgifoneaaGreatK17
set_option linter.unusedVariables false
set_option linter.unusedSimpArgs false
set_option maxRecDepth 100000
set_option maxHeartbeats 8000000
namespace Go.Proofs.YtidhlpjgifoneaaGreat
open Go.RowKit
structure Aa where
 fKind:Int
 fNum:Int
 fText:ByteArray
deriving DecidableEq,Inhabited
def Af (x:Aa):AV:=.agg [aI (x.fKind),aI (x.fNum),.str (x.fText)]
abbrev Cd (x:Aa):List AV:=[aI (x.fKind),aI (x.fNum),.str (x.fText)]
structure Ay where
 fOp:Int
 fArgs:(List AV)
 fVar:Int
 fField:Int
 fKind:Int
 fValue:Aa
deriving Inhabited
def Ar (x:Ay):AV:=.agg [aI (x.fOp),.sl 8 (x.fArgs.map idA),aI (x.fVar),aI (x.fField),aI (x.fKind),aI (x.fValue.fKind),aI (x.fValue.fNum),.str (x.fValue.fText)]
abbrev Cm (x:Ay):List AV:=[aI (x.fOp),.sl 8 (x.fArgs.map idA),aI (x.fVar),aI (x.fField),aI (x.fKind),aI (x.fValue.fKind),aI (x.fValue.fNum),.str (x.fValue.fText)]
def C1:AV->Option Ay |.agg [.int .i64 h,.sl 8 g,.int .i64 f,.int .i64 e,.int .i64 d,.int .i64 c,.int .i64 b,.str a]=>some ⟨h,g,f,e,d,⟨c,b,a⟩⟩ |_=>none
theorem D6 (a:AV)(y:Ay)(h:C1 a=some y):a=Ar y:=by
 unfold C1 at h;split at h
 ·injection h with h;subst h;simp [Ar,aI,S7]
 ·cases h
theorem Mh (y:Ay):C1 (Ar y)=some y:=by simp [C1,Ar,aI,S7]
def Kd (n:Nat)(b:Ay->Int->Option (Int))(a:Int)(i:Ay)(c:Int×Int)(d:Int->Option (Int))(e:(Int×Int)->Option (Int))(f:Bool):Option (Int):=cnd (f) (idxD C1 i.fArgs c.2 fun g=>bnd (b g a) fun h=>e ((IntKind.wrap .i64 (c.1+h)),(IntKind.wrap .i64 (c.2+1))))<|d c.1
def I2 (n:Nat)(b:Ay->Int->Option (Int))(a:Int)(f:Ay)(c:Int->Option (Int)):Nat->Int×Int->Option (Int) |0,_=>none |e+1,d=>jon (Kd n b a f d c (I2 n b a f c e))<|reg<|cnd (decide (d.2<((f.fArgs.map idA).length:Int))) (Kd n b a f d c (I2 n b a f c e) (decide (d.1<=a)))<|Kd n b a f d c (I2 n b a f c e) false
def Fy:Nat->Ay->Int->Option (Int) |0,_,_=>none |n+1,c,a=>I2 n (Fy n) a c (fun b=>some b) n (1,0)
def P7 (n:Nat)(b:Ay->Option (Int))(a:Ay)(d:Int->Option (Int)):Nat->Int×Int->Option (Int) |0,_=>none |e+1,c=>cnd (decide (c.2<((a.fArgs.map idA).length:Int))) (idxD C1 a.fArgs c.2 fun f=>bnd (b f) fun g=>(P7 n b a d e) ((max c.1 g),(IntKind.wrap .i64 (c.2+1))))<|d c.1
def Fx:Nat->Ay->Option (Int) |0,_=>none |n+1,a=>P7 n (Fx n) a (fun b=>some (IntKind.wrap .i64 (b+1))) n (0,0)
def Ef (n:Nat)(b:Bool):Option (Int):=cnd (b) (some 2)<|some (-1)
def Fp (n:Nat)(a:Int)(b:Bool):Option (Int):=cnd (b) (some 0)<|cnd (decide (a=12)) (some 1)<|jon (Ef n)<|reg<|cnd (decide (a=5)) (Ef n (decide (a=5)))<|reg<|cnd (decide (a=6)) (Ef n (decide (a=6)))<|reg<|cnd (decide (a=7)) (Ef n (decide (a=7)))<|reg<|cnd (decide (a=8)) (Ef n (decide (a=8)))<|reg<|cnd (decide (a=9)) (Ef n (decide (a=9)))<|reg<|cnd (decide (a=10)) (Ef n (decide (a=10)))<|Ef n (decide (a=11))
def Tz (n:Nat)(a:Int):Option (Int):=jon (Fp n a)<|reg<|cnd (decide (a=0)) (Fp n a (decide (a=0)))<|reg<|cnd (decide (a=1)) (Fp n a (decide (a=1)))<|reg<|cnd (decide (a=2)) (Fp n a (decide (a=2)))<|reg<|cnd (decide (a=3)) (Fp n a (decide (a=3)))<|Fp n a (decide (a=4))
def I5 (n:Nat)(b:Bool)(c:Bool):Option (Bool×Bool):=some (c,b)
def Kr (n:Nat)(a:Int)(b:Bool):Option (Bool×Bool):=jon (I5 n b)<|reg<|cnd (b) (I5 n b true)<|cnd (decide (a=2)) (I5 n b true)<|I5 n b (decide (a=3))
def Qq (n:Nat)(a:Int):Option (Bool×Bool):=jon (Kr n a)<|reg<|cnd (decide (a=1)) (Kr n a true)<|Kr n a (decide (a=4))
def Gy (n:Nat)(a:Aa):Option (Int):=cnd (decide (a.fKind<0)) (some 1)<|cnd (decide (2<a.fKind)) (some 1)<|cnd (decide (a.fKind=2)) (cnd (!decide (a.fNum=0)) (some 3)<|cnd (decide (64<((a.fText.size:Nat):Int))) (some 13)<|some 0)<|cnd (!(a.fText.toList == ByteArray.empty.toList)) (some 3)<|cnd (decide (a.fKind=1)) (cnd (decide (a.fNum<0)) (some 2)<|cnd (decide (1<a.fNum)) (some 2)<|cnd (decide (a.fNum<(-1099511627776))) (some 2)<|cnd (decide (1099511627776<a.fNum)) (some 2)<|some 0)<|cnd (decide (a.fNum<(-1099511627776))) (some 2)<|cnd (decide (1099511627776<a.fNum)) (some 2)<|some 0
def Gk (n:Nat)(b:Bool):Option (Bool):=some b
def Lq (n:Nat)(a:Int)(b:Aa):Option (Bool):=jon (Gk n)<|reg<|cnd (decide (b.fKind=0)) (Gk n true)<|cnd (decide (a=0)) (Gk n true)<|cnd (decide (a=4)) (Gk n true)<|Gk n (decide (a=5))
def C9 (n:Nat)(b:Bool):Option (Int):=cnd (b) (some 3)<|some 0
def Gs (n:Nat)(a:Ay)(d:Bool×Bool)(b:Bool)(c:Bool):Option (Int):=cnd (c) (some 9)<|jon (C9 n)<|reg<|cnd (!(d.1)) (cnd (!decide (a.fVar=0)) (C9 n true)<|cnd (!(d.2)) (cnd (!decide (a.fField=0)) (C9 n true)<|cnd (!(decide (a.fOp=4))) (cnd (!decide (a.fKind=0)) (C9 n true)<|cnd (!(b)) (C9 n (!(decide (a.fValue.fKind=0) && (decide (a.fValue.fNum=0) && ((a.fValue.fText.toList == ByteArray.empty.toList) && true)))))<|C9 n false)<|cnd (!(b)) (C9 n (!(decide (a.fValue.fKind=0) && (decide (a.fValue.fNum=0) && ((a.fValue.fText.toList == ByteArray.empty.toList) && true)))))<|C9 n false)<|cnd (!(decide (a.fOp=4))) (cnd (!decide (a.fKind=0)) (C9 n true)<|cnd (!(b)) (C9 n (!(decide (a.fValue.fKind=0) && (decide (a.fValue.fNum=0) && ((a.fValue.fText.toList == ByteArray.empty.toList) && true)))))<|C9 n false)<|cnd (!(b)) (C9 n (!(decide (a.fValue.fKind=0) && (decide (a.fValue.fNum=0) && ((a.fValue.fText.toList == ByteArray.empty.toList) && true)))))<|C9 n false)<|cnd (!(d.2)) (cnd (!decide (a.fField=0)) (C9 n true)<|cnd (!(decide (a.fOp=4))) (cnd (!decide (a.fKind=0)) (C9 n true)<|cnd (!(b)) (C9 n (!(decide (a.fValue.fKind=0) && (decide (a.fValue.fNum=0) && ((a.fValue.fText.toList == ByteArray.empty.toList) && true)))))<|C9 n false)<|cnd (!(b)) (C9 n (!(decide (a.fValue.fKind=0) && (decide (a.fValue.fNum=0) && ((a.fValue.fText.toList == ByteArray.empty.toList) && true)))))<|C9 n false)<|cnd (!(decide (a.fOp=4))) (cnd (!decide (a.fKind=0)) (C9 n true)<|cnd (!(b)) (C9 n (!(decide (a.fValue.fKind=0) && (decide (a.fValue.fNum=0) && ((a.fValue.fText.toList == ByteArray.empty.toList) && true)))))<|C9 n false)<|cnd (!(b)) (C9 n (!(decide (a.fValue.fKind=0) && (decide (a.fValue.fNum=0) && ((a.fValue.fText.toList == ByteArray.empty.toList) && true)))))<|C9 n false
def Ks (n:Nat)(a:Ay)(d:Bool×Bool)(b:Bool)(_:Unit):Option (Int):=jon (Gs n a d b)<|reg<|cnd (decide (a.fOp=4)) (bnd (Lq n a.fKind a.fValue) fun c=>cnd (!(c)) (Gs n a d b true)<|cnd (decide (a.fKind=1)) (Gs n a d b (!(decide (a.fValue.fKind=0) && (decide (a.fValue.fNum=0) && ((a.fValue.fText.toList == ByteArray.empty.toList) && true)))))<|Gs n a d b false)<|Gs n a d b false
def Kt (n:Nat)(a:Ay)(d:Bool×Bool)(b:Bool):Option (Int):=jon (Ks n a d b)<|reg<|cnd (b) (bnd (Gy n a.fValue) fun c=>cnd (!decide (c=0)) (some c)<|Ks n a d b ())<|Ks n a d b ()
def I6 (n:Nat)(a:Ay)(c:Bool×Bool)(b:Bool):Option (Int):=cnd (b) (some 1)<|jon (Kt n a c)<|reg<|cnd (decide (a.fOp=4)) (Kt n a c true)<|Kt n a c (decide (a.fOp=0))
def E1 (n:Nat)(a:Ay)(c:Bool×Bool)(b:Bool):Option (Int):=cnd (b) (some 2)<|jon (I6 n a c)<|reg<|cnd (decide (a.fOp=4)) (cnd (decide (a.fKind<1)) (I6 n a c true)<|I6 n a c (decide (5<a.fKind)))<|I6 n a c false
def U6 (n:Nat)(a:Ay):Option (Int):=bnd (Tz n a.fOp) fun c=>cnd (decide (c<0)) (some 1)<|cnd (!decide (((a.fArgs.map idA).length:Int)=c)) (some 15)<|bnd (Qq n a.fOp) fun b=>jon (E1 n a b)<|reg<|cnd (b.1) (cnd (decide (a.fVar<0)) (E1 n a b true)<|cnd (decide (16<=a.fVar)) (E1 n a b true)<|cnd (b.2) (cnd (decide (a.fField<0)) (E1 n a b true)<|E1 n a b (decide (8<=a.fField)))<|E1 n a b false)<|cnd (b.2) (cnd (decide (a.fField<0)) (E1 n a b true)<|E1 n a b (decide (8<=a.fField)))<|E1 n a b false
def P6 (n:Nat)(b:Ay->Option (Int))(a:Ay)(c:Option (Int)):Nat->Int->Option (Int) |0,_=>none |e+1,d=>cnd (decide (d<((a.fArgs.map idA).length:Int))) (idxD C1 a.fArgs d fun g=>bnd (b g) fun f=>cnd (!decide (f=0)) (some f)<|(P6 n b a c e) (IntKind.wrap .i64 (d+1)))<|c
def Gx:Nat->Ay->Option (Int) |0,_=>none |n+1,b=>bnd (U6 n b) fun a=>cnd (!decide (a=0)) (some a)<|P6 n (Gx n) b (some 0) n 0
def Fz (n:Nat)(a:Ay):Option (Int):=bnd (Fy n a 64) fun d=>cnd (decide (64<d)) (some 5)<|bnd (Fx n a) fun c=>cnd (decide (12<c)) (some 12)<|bnd (Gx n a) fun b=>some b
structure Be where
 fScope:Int
 fType:Int
 fVar:Int
 fCond:Ay
deriving Inhabited
def Bc (x:Be):AV:=.agg [aI (x.fScope),aI (x.fType),aI (x.fVar),aI (x.fCond.fOp),.sl 8 (x.fCond.fArgs.map idA),aI (x.fCond.fVar),aI (x.fCond.fField),aI (x.fCond.fKind),aI (x.fCond.fValue.fKind),aI (x.fCond.fValue.fNum),.str (x.fCond.fValue.fText)]
abbrev Vw (x:Be):List AV:=[aI (x.fScope),aI (x.fType),aI (x.fVar),aI (x.fCond.fOp),.sl 8 (x.fCond.fArgs.map idA),aI (x.fCond.fVar),aI (x.fCond.fField),aI (x.fCond.fKind),aI (x.fCond.fValue.fKind),aI (x.fCond.fValue.fNum),.str (x.fCond.fValue.fText)]
structure F6 where
 fGuards:(List Be)
deriving Inhabited
def Bb (x:F6):AV:=.agg [.sl 11 (x.fGuards.map Bc)]
structure C2 where
 fScope:Int
 fSpan:Int
deriving DecidableEq,Inhabited
def Cc (x:C2):AV:=.agg [aI (x.fScope),aI (x.fSpan)]
abbrev Y7 (x:C2):List AV:=[aI (x.fScope),aI (x.fSpan)]
structure B4 where
 fFrom:Int
 fTo:Int
 fVar:Int
 fType:Int
 fCond:Ay
 fOpens:(List Int)
 fCloses:(List Int)
 fChecks:(List AV)
 fLimits:(List C2)
 fInside:(List Int)
deriving Inhabited
def B5 (x:B4):AV:=.agg [aI (x.fFrom),aI (x.fTo),aI (x.fVar),aI (x.fType),aI (x.fCond.fOp),.sl 8 (x.fCond.fArgs.map idA),aI (x.fCond.fVar),aI (x.fCond.fField),aI (x.fCond.fKind),aI (x.fCond.fValue.fKind),aI (x.fCond.fValue.fNum),.str (x.fCond.fValue.fText),.sl 1 (x.fOpens.map aI),.sl 1 (x.fCloses.map aI),.sl 8 (x.fChecks.map idA),.sl 2 (x.fLimits.map Cc),.sl 1 (x.fInside.map aI)]
abbrev C6 (x:B4):List AV:=[aI (x.fFrom),aI (x.fTo),aI (x.fVar),aI (x.fType),aI (x.fCond.fOp),.sl 8 (x.fCond.fArgs.map idA),aI (x.fCond.fVar),aI (x.fCond.fField),aI (x.fCond.fKind),aI (x.fCond.fValue.fKind),aI (x.fCond.fValue.fNum),.str (x.fCond.fValue.fText),.sl 1 (x.fOpens.map aI),.sl 1 (x.fCloses.map aI),.sl 8 (x.fChecks.map idA),.sl 2 (x.fLimits.map Cc),.sl 1 (x.fInside.map aI)]
structure Ak where
 fVars:Int
 fScopes:Int
 fStates:(List F6)
 fEdges:(List B4)
deriving Inhabited
def Bm (x:Ak):AV:=.agg [aI (x.fVars),aI (x.fScopes),.sl 1 (x.fStates.map Bb),.sl 17 (x.fEdges.map B5)]
abbrev Ba (x:Ak):List AV:=[aI (x.fVars),aI (x.fScopes),.sl 1 (x.fStates.map Bb),.sl 17 (x.fEdges.map B5)]
def L8 (n:Nat)(b:Bool):Option (Bool):=some b
def D5 (n:Nat)(a:Int)(b:Int):Option (Bool):=jon (L8 n)<|reg<|cnd (decide (a<0)) (L8 n true)<|L8 n (decide (b<a))
def Oh (n:Nat)(a:(List Be))(h:Ak)(c:Int)(b:Option (Int)):Nat->Int->Option (Int) |0,_=>none |e+1,d=>cnd (decide (d<c)) (idx a d fun f=>idx a c fun g=>cnd (decide (f.fScope=g.fScope)) (some 7)<|(Oh n a h c b e) (IntKind.wrap .i64 (d+1)))<|b
def I0 (n:Nat)(a:(List Be))(g:Ak)(b:Int)(c:Int->Option (Int))(e:Bool):Option (Int):=cnd (e) (some 2)<|Oh n a g b (idx a b fun f=>bnd (Fz n f.fCond) fun d=>cnd (!decide (d=0)) (some d)<|c (IntKind.wrap .i64 (b+1))) n 0
def Fl (n:Nat)(a:(List Be))(i:Ak)(b:Option (Int)):Nat->Int->Option (Int) |0,_=>none |d+1,c=>cnd (decide (c<((a.map Bc).length:Int))) (jon (I0 n a i c (Fl n a i b d))<|reg<|idx a c fun e=>bnd (D5 n e.fScope (IntKind.wrap .i64 (i.fScopes-1))) fun f=>cnd (f) (I0 n a i c (Fl n a i b d) true)<|idx a c fun g=>bnd (D5 n g.fType 15) fun h=>cnd (h) (I0 n a i c (Fl n a i b d) true)<|idx a c fun j=>bnd (D5 n j.fVar (IntKind.wrap .i64 (i.fVars-1))) fun k=>I0 n a i c (Fl n a i b d) k)<|b
def Tl (n:Nat)(b:Ak)(a:(List Be)):Option (Int):=cnd (decide (64<((a.map Bc).length:Int))) (some 5)<|Fl n a b (some 0) n 0
def Og (n:Nat)(h:Int)(a:(List Int))(c:Int)(b:Option (Int)):Nat->Int->Option (Int) |0,_=>none |e+1,d=>cnd (decide (d<c)) (idx a d fun f=>idx a c fun g=>cnd (decide (f=g)) (some 7)<|(Og n h a c b e) (IntKind.wrap .i64 (d+1)))<|b
def K1 (n:Nat)(g:Int)(a:(List Int))(c:Option (Int)):Nat->Int->Option (Int) |0,_=>none |d+1,b=>cnd (decide (b<((a.map aI).length:Int))) (idx a b fun e=>bnd (D5 n e (IntKind.wrap .i64 (g-1))) fun f=>cnd (f) (some 2)<|Og n g a b ((K1 n g a c d) (IntKind.wrap .i64 (b+1))) n 0)<|c
def Q4 (n:Nat)(b:(List Int))(a:Int):Option (Int):=K1 n a b (some 0) n 0
def K9 (n:Nat)(a:B4)(b:Option (Int)):Nat->Int->Option (Int) |0,_=>none |d+1,c=>cnd (decide (c<((a.fLimits.map Cc).length:Int))) (idx a.fLimits c fun e=>bnd (D5 n e.fSpan 1099511627776) fun f=>cnd (f) (some 2)<|(K9 n a b d) (IntKind.wrap .i64 (c+1)))<|b
def Gi (n:Nat)(a:B4)(h:Ak)(b:(List Int))(c:Option (Int)):Nat->Int->Option (Int) |0,_=>none |f+1,d=>cnd (decide (d<4)) (idx ([a.fOpens,a.fCloses,a.fInside,b]:List (List Int)) d fun g=>bnd (Q4 n g h.fScopes) fun e=>cnd (!decide (e=0)) (some e)<|(Gi n a h b c f) (IntKind.wrap .i64 (d+1)))<|c
def P2 (n:Nat)(a:B4)(g:Ak)(c:(List Int)->Option (Int)):Nat->Int×(List Int)->Option (Int) |0,_=>none |d+1,b=>cnd (decide (b.1<((a.fLimits.map Cc).length:Int))) (idx a.fLimits b.1 fun e=>app b.2 [e.fScope] 8 fun f=>(P2 n a g c d) ((IntKind.wrap .i64 (b.1+1)),f))<|c b.2
def Qe (n:Nat)(c:Ak)(a:B4):Option (Int):=P2 n a c (fun b=>frz 7026<|reg<|Gi n a c b (K9 n a (some 0) n 0) n 0) n (0,[])
def Po (n:Nat)(a:B4)(g:Ak)(b:Option (Int)):Nat->Int->Option (Int) |0,_=>none |d+1,c=>cnd (decide (c<((a.fChecks.map idA).length:Int))) (idxD C1 a.fChecks c fun f=>bnd (Fz n f) fun e=>cnd (!decide (e=0)) (some e)<|(Po n a g b d) (IntKind.wrap .i64 (c+1)))<|b
def Dn (n:Nat)(f:Int)(a:B4)(e:Ak)(b:Bool):Option (Int):=cnd (b) (some 2)<|cnd (decide (a.fFrom<f)) (some 14)<|bnd (Fz n a.fCond) fun d=>cnd (!decide (d=0)) (some d)<|cnd (decide (64<((a.fChecks.map idA).length:Int))) (some 5)<|Po n a e (bnd (Qe n e a) fun c=>some c) n 0
def U5 (n:Nat)(h:Ak)(a:B4)(i:Int):Option (Int):=jon (Dn n i a h)<|reg<|bnd (D5 n a.fFrom (IntKind.wrap .i64 (((h.fStates.map Bb).length:Int)-1))) fun b=>cnd (b) (Dn n i a h true)<|cnd (!decide (a.fTo=(-1))) (bnd (D5 n a.fTo (IntKind.wrap .i64 (((h.fStates.map Bb).length:Int)-1))) fun c=>cnd (c) (Dn n i a h true)<|bnd (D5 n a.fVar (IntKind.wrap .i64 (h.fVars-1))) fun d=>cnd (d) (Dn n i a h true)<|bnd (D5 n a.fType 15) fun e=>Dn n i a h e)<|bnd (D5 n a.fVar (IntKind.wrap .i64 (h.fVars-1))) fun f=>cnd (f) (Dn n i a h true)<|bnd (D5 n a.fType 15) fun g=>Dn n i a h g
def P3 (n:Nat)(a:Ak)(c:Option (Int)):Nat->Int×Int->Option (Int) |0,_=>none |d+1,b=>cnd (decide (b.2<((a.fEdges.map B5).length:Int))) (idx a.fEdges b.2 fun f=>bnd (U5 n a f b.1) fun e=>cnd (!decide (e=0)) (some e)<|idx a.fEdges b.2 fun g=>(P3 n a c d) (g.fFrom,(IntKind.wrap .i64 (b.2+1))))<|c
def P4 (n:Nat)(a:Ak)(b:Option (Int)):Nat->Int->Option (Int) |0,_=>none |d+1,c=>cnd (decide (c<((a.fStates.map Bb).length:Int))) (idx a.fStates c fun f=>bnd (Tl n a f.fGuards) fun e=>cnd (!decide (e=0)) (some e)<|(P4 n a b d) (IntKind.wrap .i64 (c+1)))<|b
def Fn (n:Nat)(a:Ak)(b:Bool):Option (Int):=cnd (b) (some 5)<|P4 n a (P3 n a (some 0) n (0,0)) n 0
def Gj (n:Nat)(a:Ak)(b:Bool):Option (Int):=cnd (b) (some 2)<|jon (Fn n a)<|reg<|cnd (decide (((a.fStates.map Bb).length:Int)<1)) (Fn n a true)<|cnd (decide (256<((a.fStates.map Bb).length:Int))) (Fn n a true)<|Fn n a (decide (2048<((a.fEdges.map B5).length:Int)))
def Il (n:Nat)(a:Ak):Option (Int):=jon (Gj n a)<|reg<|bnd (D5 n a.fVars 16) fun b=>cnd (b) (Gj n a true)<|bnd (D5 n a.fScopes 64) fun c=>Gj n a c
def Rr (n:Nat)(b:Ay->Option (Int×Int))(a:Ay)(d:Int->Int->Option (Int×Int)):Nat->Int×Int×Int->Option (Int×Int) |0,_=>none |e+1,c=>cnd (decide (c.2.2<((a.fArgs.map idA).length:Int))) (idxD C1 a.fArgs c.2.2 fun g=>bnd (b g) fun f=>(Rr n b a d e) ((IntKind.wrap .i64 (c.1+f.1)),(max c.2.1 f.2),(IntKind.wrap .i64 (c.2.2+1))))<|d c.1 c.2.1
def Hd:Nat->Ay->Option (Int×Int) |0,_=>none |n+1,a=>Rr n (Hd n) a (fun b c=>some (b,(IntKind.wrap .i64 (c+1)))) n (1,0,0)
def Ml (n:Nat)(a:Int)(b:Bool):Option (Int×Bool):=cnd (b) (some (0,false))<|cnd (decide (a<5)) (some (0,true))<|cnd (decide (a=12)) (some (1,true))<|some (2,true)
def Vt (n:Nat)(a:Int):Option (Int×Bool):=jon (Ml n a)<|reg<|cnd (decide (a<0)) (Ml n a true)<|Ml n a (decide (12<a))
def Mo (n:Nat)(b:Bool):Option (Bool×Bool):=cnd (b) (some (true,false))<|some (false,false)
def Mq (n:Nat)(a:Int)(b:Bool):Option (Bool×Bool):=cnd (b) (some (true,true))<|jon (Mo n)<|reg<|cnd (decide (a=2)) (Mo n (decide (a=2)))<|Mo n (decide (a=3))
def Rv (n:Nat)(a:Int):Option (Bool×Bool):=jon (Mq n a)<|reg<|cnd (decide (a=1)) (Mq n a (decide (a=1)))<|Mq n a (decide (a=4))
def Mu (n:Nat)(a:Aa):Option (Int):=cnd (decide (a.fKind=0)) (cnd (decide (a.fNum<(-1099511627776))) (some 2)<|cnd (decide (1099511627776<a.fNum)) (some 2)<|cnd (decide (a.fKind=1)) (cnd (!decide (a.fNum=0)) (cnd (!decide (a.fNum=1)) (some 2)<|cnd (decide (64<((a.fText.size:Nat):Int))) (some 13)<|some 0)<|cnd (decide (64<((a.fText.size:Nat):Int))) (some 13)<|some 0)<|cnd (decide (64<((a.fText.size:Nat):Int))) (some 13)<|some 0)<|cnd (decide (a.fKind=1)) (cnd (!decide (a.fNum=0)) (cnd (!decide (a.fNum=1)) (some 2)<|cnd (decide (64<((a.fText.size:Nat):Int))) (some 13)<|some 0)<|cnd (decide (64<((a.fText.size:Nat):Int))) (some 13)<|some 0)<|cnd (decide (64<((a.fText.size:Nat):Int))) (some 13)<|some 0
def H8 (n:Nat)(a:Aa):Option (Int):=cnd (decide (a.fKind=0)) (cnd (decide (a.fKind=0)) (cnd (!(a.fText.toList == ByteArray.empty.toList)) (some 3)<|bnd (Mu n a) fun e=>some e)<|cnd (decide (a.fKind=2)) (cnd (!decide (a.fNum=0)) (some 3)<|bnd (Mu n a) fun d=>some d)<|some 1)<|cnd (decide (a.fKind=1)) (cnd (!(a.fText.toList == ByteArray.empty.toList)) (some 3)<|bnd (Mu n a) fun c=>some c)<|cnd (decide (a.fKind=2)) (cnd (!decide (a.fNum=0)) (some 3)<|bnd (Mu n a) fun b=>some b)<|some 1
def J1 (n:Nat)(b:Bool):Option (Bool):=some b
def Vs (n:Nat)(a:Int)(b:Aa):Option (Bool):=jon (J1 n)<|reg<|cnd (decide (b.fKind=0)) (J1 n true)<|cnd (decide (a=4)) (J1 n true)<|J1 n (decide (a=5))
def H5 (n:Nat)(b:Bool):Option (Int):=cnd (b) (some 9)<|some 0
def V8 (n:Nat)(a:Ay):Option (Int):=bnd (H8 n a.fValue) fun b=>cnd (!decide (b=0)) (some b)<|jon (H5 n)<|reg<|cnd (decide (a.fOp=4)) (bnd (Vs n a.fKind a.fValue) fun c=>cnd (!(c)) (H5 n true)<|cnd (decide (a.fKind=1)) (H5 n (!(decide (a.fValue.fKind=0) && (decide (a.fValue.fNum=0) && ((a.fValue.fText.toList == ByteArray.empty.toList) && true)))))<|H5 n false)<|H5 n false
def Ca (n:Nat)(b:Bool):Option (Int):=cnd (b) (some 3)<|some 0
def Mr (n:Nat)(a:Ay)(c:Bool×Bool)(b:Bool)(_:Unit):Option (Int):=jon (Ca n)<|reg<|cnd (!(c.1)) (cnd (!decide (a.fVar=0)) (Ca n true)<|cnd (!(c.2)) (cnd (!decide (a.fField=0)) (Ca n true)<|cnd (!(decide (a.fOp=4))) (cnd (!decide (a.fKind=0)) (Ca n true)<|cnd (!(b)) (Ca n (!(decide (a.fValue.fKind=0) && (decide (a.fValue.fNum=0) && ((a.fValue.fText.toList == ByteArray.empty.toList) && true)))))<|Ca n false)<|cnd (!(b)) (Ca n (!(decide (a.fValue.fKind=0) && (decide (a.fValue.fNum=0) && ((a.fValue.fText.toList == ByteArray.empty.toList) && true)))))<|Ca n false)<|cnd (!(decide (a.fOp=4))) (cnd (!decide (a.fKind=0)) (Ca n true)<|cnd (!(b)) (Ca n (!(decide (a.fValue.fKind=0) && (decide (a.fValue.fNum=0) && ((a.fValue.fText.toList == ByteArray.empty.toList) && true)))))<|Ca n false)<|cnd (!(b)) (Ca n (!(decide (a.fValue.fKind=0) && (decide (a.fValue.fNum=0) && ((a.fValue.fText.toList == ByteArray.empty.toList) && true)))))<|Ca n false)<|cnd (!(c.2)) (cnd (!decide (a.fField=0)) (Ca n true)<|cnd (!(decide (a.fOp=4))) (cnd (!decide (a.fKind=0)) (Ca n true)<|cnd (!(b)) (Ca n (!(decide (a.fValue.fKind=0) && (decide (a.fValue.fNum=0) && ((a.fValue.fText.toList == ByteArray.empty.toList) && true)))))<|Ca n false)<|cnd (!(b)) (Ca n (!(decide (a.fValue.fKind=0) && (decide (a.fValue.fNum=0) && ((a.fValue.fText.toList == ByteArray.empty.toList) && true)))))<|Ca n false)<|cnd (!(decide (a.fOp=4))) (cnd (!decide (a.fKind=0)) (Ca n true)<|cnd (!(b)) (Ca n (!(decide (a.fValue.fKind=0) && (decide (a.fValue.fNum=0) && ((a.fValue.fText.toList == ByteArray.empty.toList) && true)))))<|Ca n false)<|cnd (!(b)) (Ca n (!(decide (a.fValue.fKind=0) && (decide (a.fValue.fNum=0) && ((a.fValue.fText.toList == ByteArray.empty.toList) && true)))))<|Ca n false
def Ms (n:Nat)(a:Ay)(c:Bool×Bool)(b:Bool):Option (Int):=jon (Mr n a c b)<|reg<|cnd (b) (bnd (V8 n a) fun d=>cnd (!decide (d=0)) (some d)<|Mr n a c b ())<|Mr n a c b ()
def J2 (n:Nat)(a:Ay)(c:Bool×Bool)(b:Bool):Option (Int):=cnd (b) (some 1)<|jon (Ms n a c)<|reg<|cnd (decide (a.fOp=4)) (Ms n a c true)<|Ms n a c (decide (a.fOp=0))
def E6 (n:Nat)(a:Ay)(c:Bool×Bool)(b:Bool):Option (Int):=cnd (b) (some 2)<|jon (J2 n a c)<|reg<|cnd (decide (a.fOp=4)) (cnd (decide (a.fKind<1)) (J2 n a c true)<|J2 n a c (decide (5<a.fKind)))<|J2 n a c false
def Vx (n:Nat)(a:Ay):Option (Int):=bnd (Vt n a.fOp) fun c=>cnd (!(c.2)) (some 1)<|cnd (!decide (((a.fArgs.map idA).length:Int)=c.1)) (some 15)<|bnd (Rv n a.fOp) fun b=>jon (E6 n a b)<|reg<|cnd (b.1) (cnd (decide (a.fVar<0)) (E6 n a b true)<|cnd (decide (16<=a.fVar)) (E6 n a b true)<|cnd (b.2) (cnd (decide (a.fField<0)) (E6 n a b true)<|E6 n a b (decide (8<=a.fField)))<|E6 n a b false)<|cnd (b.2) (cnd (decide (a.fField<0)) (E6 n a b true)<|E6 n a b (decide (8<=a.fField)))<|E6 n a b false
def Rm (n:Nat)(b:Ay->Option (Int))(a:Ay)(c:Option (Int)):Nat->Int->Option (Int) |0,_=>none |e+1,d=>cnd (decide (d<((a.fArgs.map idA).length:Int))) (idxD C1 a.fArgs d fun g=>bnd (b g) fun f=>cnd (!decide (f=0)) (some f)<|(Rm n b a c e) (IntKind.wrap .i64 (d+1)))<|c
def Ha:Nat->Ay->Option (Int) |0,_=>none |n+1,b=>bnd (Vx n b) fun a=>cnd (!decide (a=0)) (some a)<|Rm n (Ha n) b (some 0) n 0
def Hb (n:Nat)(b:Ay):Option (Int):=bnd (Hd n b) fun a=>cnd (decide (64<a.1)) (some 5)<|cnd (decide (12<a.2)) (some 12)<|bnd (Ha n b) fun c=>some c
def Ls (n:Nat)(b:Bool):Option (Bool):=some b
def F0 (n:Nat)(a:Int)(b:Int):Option (Bool):=jon (Ls n)<|reg<|cnd (decide (0<=a)) (Ls n (decide (a<b)))<|Ls n false
def Qy (n:Nat)(b:Be)(a:Be):Option (Bool):=some (decide (b.fScope=a.fScope))
def Qk (n:Nat)(d:Be)(a:(List Be))(c:Option (Int)):Nat->Int->Option (Int) |0,_=>none |e+1,b=>cnd (decide (b<((a.map Bc).length:Int))) (idx a b fun f=>bnd (Qy n f d) fun g=>cnd (g) (some b)<|(Qk n d a c e) (IntKind.wrap .i64 (b+1)))<|c
def Uv (n:Nat)(a:(List Be))(b:Be):Option (Int):=Qk n b a (some (-1)) n 0
def Qm (n:Nat)(c:(List Be))(b:Be):Option (Bool):=bnd (Uv n c b) fun a=>some (decide (0<=a))
def Ip (n:Nat)(a:(List Be))(i:Ak)(b:Int)(c:Int->Option (Int))(d:Be)(f:Bool):Option (Int):=cnd (f) (some 2)<|sls a 0 b fun g=>bnd (Qm n g d) fun h=>cnd (h) (some 7)<|bnd (Hb n d.fCond) fun e=>cnd (!decide (e=0)) (some e)<|c (IntKind.wrap .i64 (b+1))
def G1 (n:Nat)(a:(List Be))(i:Ak)(b:Option (Int)):Nat->Int->Option (Int) |0,_=>none |d+1,c=>cnd (decide (c<((a.map Bc).length:Int))) (idx a c fun e=>jon (Ip n a i c (G1 n a i b d) e)<|reg<|bnd (F0 n e.fScope i.fScopes) fun f=>cnd (!(f)) (Ip n a i c (G1 n a i b d) e true)<|bnd (F0 n e.fType 16) fun g=>cnd (!(g)) (Ip n a i c (G1 n a i b d) e true)<|bnd (F0 n e.fVar i.fVars) fun h=>Ip n a i c (G1 n a i b d) e !(h))<|b
def Uz (n:Nat)(b:Ak)(a:(List Be)):Option (Int):=cnd (decide (64<((a.map Bc).length:Int))) (some 5)<|G1 n a b (some 0) n 0
def Qb (n:Nat)(a:(List C2))(c:(List Int)->Option ((List Int))):Nat->Int×(List Int)->Option ((List Int)) |0,_=>none |d+1,b=>cnd (decide (b.1<((a.map Cc).length:Int))) (idx a b.1 fun e=>app b.2 [e.fScope] 8 fun f=>(Qb n a c d) ((IntKind.wrap .i64 (b.1+1)),f))<|c b.2
def R2 (n:Nat)(a:(List C2)):Option ((List Int)):=Qb n a (fun b=>some b) n (0,[])
def R8 (n:Nat)(f:Int)(a:(List Int))(c:Option (Int)):Nat->Int->Option (Int) |0,_=>none |d+1,b=>cnd (decide (b<((a.map aI).length:Int))) (idx a b fun e=>cnd (decide (f=e)) (some b)<|(R8 n f a c d) (IntKind.wrap .i64 (b+1)))<|c
def Y1 (n:Nat)(b:(List Int))(a:Int):Option (Int):=R8 n a b (some (-1)) n 0
def H7 (n:Nat)(c:(List Int))(b:Int):Option (Bool):=bnd (Y1 n c b) fun a=>some (decide (0<=a))
def Gz (n:Nat)(i:(List (List Int)))(a:Ak)(g:Int)(d:(List Int))(c:Option (Int)):Nat->Int->Option (Int) |0,_=>none |e+1,b=>cnd (decide (b<((d.map aI).length:Int))) (idx d b fun f=>bnd (F0 n f a.fScopes) fun h=>cnd (!(h)) (some 2)<|sls d 0 b fun j=>bnd (H7 n j f) fun k=>cnd (k) (some 7)<|(Gz n i a g d c e) (IntKind.wrap .i64 (b+1)))<|c
def Io (n:Nat)(a:(List (List Int)))(f:Ak)(c:Option (Int)):Nat->Int->Option (Int) |0,_=>none |d+1,b=>cnd (decide (b<(((List.map (fun q=>AV.sl 1 (List.map aI q)) (a)).length:Nat):Int))) (idx a b fun e=>Gz n a f b e ((Io n a f c d) (IntKind.wrap .i64 (b+1))) n 0)<|c
def Uy (n:Nat)(b:Ak)(a:(List (List Int))):Option (Int):=Io n a b (some 0) n 0
def Lt (n:Nat)(b:Bool):Option (Bool):=some b
def M6 (n:Nat)(a:C2):Option (Bool):=jon (Lt n)<|reg<|cnd (decide (a.fSpan<0)) (Lt n true)<|Lt n (decide (1099511627776<a.fSpan))
def Oo (n:Nat)(a:(List C2))(c:Option (Int)):Nat->Int->Option (Int) |0,_=>none |d+1,b=>cnd (decide (b<((a.map Cc).length:Int))) (idx a b fun e=>bnd (M6 n e) fun f=>cnd (f) (some b)<|(Oo n a c d) (IntKind.wrap .i64 (b+1)))<|c
def Tq (n:Nat)(a:(List C2)):Option (Int):=Oo n a (some (-1)) n 0
def Oq (n:Nat)(b:(List C2)):Option (Bool):=bnd (Tq n b) fun a=>some (decide (0<=a))
def R3 (n:Nat)(a:B4)(g:Ak)(b:Option (Int)):Nat->Int->Option (Int) |0,_=>none |d+1,c=>cnd (decide (c<((a.fChecks.map idA).length:Int))) (idxD C1 a.fChecks c fun f=>bnd (Hb n f) fun e=>cnd (!decide (e=0)) (some e)<|(R3 n a g b d) (IntKind.wrap .i64 (c+1)))<|b
def E4 (n:Nat)(h:Int)(a:B4)(g:Ak)(c:Bool):Option (Int):=cnd (c) (some 2)<|cnd (decide (a.fFrom<h)) (some 14)<|bnd (Hb n a.fCond) fun f=>cnd (!decide (f=0)) (some f)<|cnd (decide (64<((a.fChecks.map idA).length:Int))) (some 5)<|R3 n a g (bnd (R2 n a.fLimits) fun d=>bnd (Uy n g ([a.fOpens,a.fCloses,a.fInside,d])) fun b=>cnd (!decide (b=0)) (some b)<|bnd (Oq n a.fLimits) fun e=>cnd (e) (some 2)<|some 0) n 0
def V9 (n:Nat)(e:Ak)(a:B4)(f:Int):Option (Int):=jon (E4 n f a e)<|reg<|bnd (F0 n a.fFrom ((e.fStates.map Bb).length:Int)) fun b=>cnd (!(b)) (E4 n f a e true)<|cnd (decide (a.fTo<(-1))) (E4 n f a e true)<|cnd (decide (((e.fStates.map Bb).length:Int)<=a.fTo)) (E4 n f a e true)<|bnd (F0 n a.fVar e.fVars) fun c=>cnd (!(c)) (E4 n f a e true)<|bnd (F0 n a.fType 16) fun d=>E4 n f a e !(d)
def Qz (n:Nat)(a:Ak)(c:Option (Int)):Nat->Int×Int->Option (Int) |0,_=>none |d+1,b=>cnd (decide (b.2<((a.fEdges.map B5).length:Int))) (idx a.fEdges b.2 fun e=>bnd (V9 n a e b.1) fun f=>cnd (!decide (f=0)) (some f)<|(Qz n a c d) (e.fFrom,(IntKind.wrap .i64 (b.2+1))))<|c
def R0 (n:Nat)(a:Ak)(b:Option (Int)):Nat->Int->Option (Int) |0,_=>none |d+1,c=>cnd (decide (c<((a.fStates.map Bb).length:Int))) (idx a.fStates c fun f=>bnd (Uz n a f.fGuards) fun e=>cnd (!decide (e=0)) (some e)<|(R0 n a b d) (IntKind.wrap .i64 (c+1)))<|b
def G2 (n:Nat)(a:Ak)(b:Bool):Option (Int):=cnd (b) (some 5)<|R0 n a (Qz n a (some 0) n (0,0)) n 0
def Ey (n:Nat)(a:Ak)(b:Bool):Option (Int):=cnd (b) (some 2)<|jon (G2 n a)<|reg<|cnd (decide (((a.fStates.map Bb).length:Int)<1)) (G2 n a true)<|cnd (decide (256<((a.fStates.map Bb).length:Int))) (G2 n a true)<|G2 n a (decide (2048<((a.fEdges.map B5).length:Int)))
def Md (n:Nat)(a:Ak):Option (Int):=jon (Ey n a)<|reg<|cnd (decide (a.fVars<0)) (Ey n a true)<|cnd (decide (16<a.fVars)) (Ey n a true)<|cnd (decide (a.fScopes<0)) (Ey n a true)<|Ey n a (decide (64<a.fScopes))
def I7 (n:Nat)(b:Bool):Option (Bool):=some b
def Qs (n:Nat)(a:Int):Option (Bool):=jon (I7 n)<|reg<|cnd (decide (0<=a)) (I7 n (decide (a<=5)))<|I7 n false
structure C0 where
 fKind:Int
 fCount:Int
 fValue:Aa
deriving DecidableEq,Inhabited
def E5 (x:C0):AV:=.agg [aI (x.fKind),aI (x.fCount),aI (x.fValue.fKind),aI (x.fValue.fNum),.str (x.fValue.fText)]
abbrev V1 (x:C0):List AV:=[aI (x.fKind),aI (x.fCount),aI (x.fValue.fKind),aI (x.fValue.fNum),.str (x.fValue.fText)]
def Gl (n:Nat)(b:Bool):Option (Int):=cnd (b) (some 3)<|some 0
def Ke (n:Nat)(b:Bool):Option (Int):=cnd (b) (some 3)<|some 0
def Kf (n:Nat)(a:C0)(b:Bool):Option (Int):=cnd (b) (cnd (!(decide (a.fValue.fKind=0) && (decide (a.fValue.fNum=0) && ((a.fValue.fText.toList == ByteArray.empty.toList) && true)))) (some 3)<|some 0)<|cnd (decide (a.fKind=1)) (jon (Gl n)<|reg<|cnd (!decide (a.fValue.fKind=0)) (Gl n true)<|cnd (!(a.fValue.fText.toList == ByteArray.empty.toList)) (Gl n true)<|cnd (decide (a.fValue.fNum<(IntKind.wrap .i64 (0-(IntKind.wrap .i64 (a.fCount*1099511627776)))))) (Gl n true)<|Gl n (decide ((IntKind.wrap .i64 (a.fCount*1099511627776))<a.fValue.fNum)))<|jon (Ke n)<|reg<|bnd (Gy n a.fValue) fun d=>cnd (!decide (d=0)) (Ke n true)<|bnd (Lq n a.fKind a.fValue) fun c=>Ke n !(c)
def Kg (n:Nat)(a:C0)(b:Bool):Option (Int):=cnd (b) (some 2)<|jon (Kf n a)<|reg<|cnd (decide (a.fCount=0)) (Kf n a true)<|Kf n a (decide (a.fKind=0))
def Qh (n:Nat)(a:C0):Option (Int):=bnd (Qs n a.fKind) fun b=>cnd (!(b)) (some 1)<|jon (Kg n a)<|reg<|cnd (decide (a.fCount<0)) (Kg n a true)<|Kg n a (decide (4096<a.fCount))
def Qf (n:Nat)(d:Int)(b:Aa):Option (Int):=bnd (Gy n b) fun a=>cnd (!decide (a=0)) (some a)<|bnd (Lq n d b) fun c=>cnd (!(c)) (some 9)<|some 0
def Te (n:Nat)(a:Int)(c:Aa)(b:Aa):Option (Aa):=cnd (decide (a=1)) (some (⟨0,(IntKind.wrap .i64 (c.fNum+b.fNum)),ByteArray.empty⟩))<|cnd (decide (a=2)) (some (⟨0,(min c.fNum b.fNum),ByteArray.empty⟩))<|cnd (decide (a=3)) (some (⟨0,(max c.fNum b.fNum),ByteArray.empty⟩))<|cnd (decide (a=4)) (some c)<|cnd (decide (a=5)) (some b)<|some (⟨0,0,ByteArray.empty⟩)
def Ij (n:Nat)(a:C0)(b:Int×Int×ByteArray):Option (C0×Int):=some (⟨a.fKind,(IntKind.wrap .i64 (a.fCount+1)),⟨b.1,b.2.1,b.2.2⟩⟩,0)
def Ug (n:Nat)(a:C0)(b:Aa):Option (C0×Int):=bnd (Qh n a) fun e=>cnd (!decide (e=0)) (some (⟨0,0,⟨0,0,ByteArray.empty⟩⟩,e))<|bnd (Qf n a.fKind b) fun d=>cnd (!decide (d=0)) (some (⟨0,0,⟨0,0,ByteArray.empty⟩⟩,d))<|cnd (decide (a.fCount=4096)) (some (⟨0,0,⟨0,0,ByteArray.empty⟩⟩,5))<|jon (Ij n a)<|reg<|cnd (decide (a.fKind=0)) (Ij n a (0,0,ByteArray.empty))<|reg<|cnd (decide (0<a.fCount)) (bnd (Te n a.fKind a.fValue b) fun c=>Ij n a (c.fKind,c.fNum,c.fText))<|Ij n a (b.fKind,b.fNum,b.fText)
def K3 (n:Nat)(a:Aa)(c:C0)(b:Bool):Option (Aa×Int):=cnd (b) (some (a,0))<|some (c.fValue,0)
def Q7 (n:Nat)(a:C0)(b:Aa):Option (Aa×Int):=bnd (Qh n a) fun d=>cnd (!decide (d=0)) (some (⟨0,0,ByteArray.empty⟩,d))<|bnd (Qf n a.fKind b) fun c=>cnd (!decide (c=0)) (some (⟨0,0,ByteArray.empty⟩,c))<|cnd (decide (a.fKind=0)) (some (⟨0,a.fCount,ByteArray.empty⟩,0))<|jon (K3 n b a)<|reg<|cnd (decide (a.fCount=0)) (K3 n b a (!decide (a.fKind=1)))<|K3 n b a false
def Qg (n:Nat)(g:Aa)(a:(List Aa))(d:Int->Int->Int->Int->ByteArray->Option (Aa×Int)):Nat->Int×Int×Int×Int×Int×ByteArray->Option (Aa×Int) |0,_=>none |e+1,b=>cnd (decide (b.1<((a.map Af).length:Int))) (idx a b.1 fun f=>bnd (Ug n (⟨b.2.1,b.2.2.1,⟨b.2.2.2.1,b.2.2.2.2.1,b.2.2.2.2.2⟩⟩:C0) f) fun c=>cnd (!decide (c.2=0)) (some (⟨0,0,ByteArray.empty⟩,c.2))<|(Qg n g a d e) ((IntKind.wrap .i64 (b.1+1)),c.1.fKind,c.1.fCount,c.1.fValue.fKind,c.1.fValue.fNum,c.1.fValue.fText))<|d b.2.1 b.2.2.1 b.2.2.2.1 b.2.2.2.2.1 b.2.2.2.2.2
def R5 (n:Nat)(i:Int)(h:(List Aa))(a:Aa):Option (Aa×Int):=bnd (Qs n i) fun j=>cnd (!(j)) (some (⟨0,0,ByteArray.empty⟩,1))<|cnd (decide (4096<((h.map Af).length:Int))) (some (⟨0,0,ByteArray.empty⟩,5))<|Qg n a h (fun b c d e f=>bnd (Q7 n (⟨b,c,⟨d,e,f⟩⟩:C0) a) fun g=>some (g.1,g.2)) n (0,i,0,0,0,ByteArray.empty)
structure A8 where
 fSource:Int
 fSeq:Int
 fType:Int
 fTime:Int
 fValues:(List Aa)
deriving DecidableEq,Inhabited
def A7 (x:A8):AV:=.agg [aI (x.fSource),aI (x.fSeq),aI (x.fType),aI (x.fTime),.sl 3 (x.fValues.map Af)]
abbrev Bu (x:A8):List AV:=[aI (x.fSource),aI (x.fSeq),aI (x.fType),aI (x.fTime),.sl 3 (x.fValues.map Af)]
structure Ao where
 fVars:(List (List A8))
deriving DecidableEq,Inhabited
def Di (x:Ao):AV:=.agg [.sl 1 (List.map (fun q=>AV.sl 5 (List.map A7 q)) (x.fVars))]
abbrev Dj (x:Ao):List AV:=[.sl 1 (List.map (fun q=>AV.sl 5 (List.map A7 q)) (x.fVars))]
def K2 (n:Nat)(c:Int)(d:Ao)(b:Bool):Option ((List A8)):=cnd (b) (some [])<|idx d.fVars c fun a=>some a
def Ld (n:Nat)(b:Ao)(a:Int):Option ((List A8)):=jon (K2 n a b)<|reg<|cnd (decide (a<0)) (K2 n a b true)<|K2 n a b (decide ((((List.map (fun q=>AV.sl 5 (List.map A7 q)) (b.fVars)).length:Nat):Int)<=a))
def Xl (n:Nat)(f:Ao)(b:Int)(e:Int)(d:A8):Option (A8×Bool):=cnd (decide (b=e)) (some (d,true))<|bnd (Ld n (⟨f.fVars⟩:Ao) b) fun a=>cnd (decide (((a.map A7).length:Int)=0)) (some (⟨0,0,0,0,[]⟩,false))<|idx a (IntKind.wrap .i64 (((a.map A7).length:Int)-1)) fun c=>some (c,true)
def Pp (n:Nat)(i:Ay)(a:(List A8))(c:(List Aa)->Option (Aa×Int)):Nat->Int×(List Aa)->Option (Aa×Int) |0,_=>none |d+1,b=>cnd (decide (b.1<((a.map A7).length:Int))) (idx a b.1 fun e=>cnd (decide (((e.fValues.map Af).length:Int)<=i.fField)) (some (⟨0,0,ByteArray.empty⟩,6))<|idx a b.1 fun f=>idx f.fValues i.fField fun g=>app b.2 [g] 32 fun h=>(Pp n i a c d) ((IntKind.wrap .i64 (b.1+1)),h))<|c b.2
def Qr (n:Nat)(a:Ay)(h:Ao)(l:Int)(k:A8):Option (Aa×Int):=cnd (decide (a.fOp=0)) (some (a.fValue,0))<|cnd (decide (a.fOp=3)) (bnd (Ld n (⟨h.fVars⟩:Ao) a.fVar) fun j=>some (⟨0,((j.map A7).length:Int),ByteArray.empty⟩,0))<|cnd (decide (a.fOp=4)) (bnd (Ld n (⟨h.fVars⟩:Ao) a.fVar) fun i=>Pp n a i (fun c=>bnd (R5 n a.fKind c a.fValue) fun d=>some (d.1,d.2)) n (0,[]))<|bnd (Xl n (⟨h.fVars⟩:Ao) a.fVar l k) fun b=>cnd (!(b.2)) (some (⟨0,0,ByteArray.empty⟩,10))<|cnd (decide (a.fOp=2)) (some (⟨0,b.1.fTime,ByteArray.empty⟩,0))<|cnd (decide (((b.1.fValues.map Af).length:Int)<=a.fField)) (some (⟨0,0,ByteArray.empty⟩,6))<|idx b.1.fValues a.fField fun f=>bnd (Gy n f) fun e=>cnd (!decide (e=0)) (some (⟨0,0,ByteArray.empty⟩,e))<|idx b.1.fValues a.fField fun g=>some (g,0)
def Hq (n:Nat)(b:Bool):Option (Int):=cnd (b) (some 1)<|some (-1)
def Gb (n:Nat)(a:Int)(b:Bool):Option (Int):=cnd (b) (some 0)<|jon (Hq n)<|reg<|cnd (decide (a=10)) (Hq n (decide (a=10)))<|reg<|cnd (decide (a=11)) (Hq n (decide (a=11)))<|Hq n (decide (a=12))
def Ta (n:Nat)(a:Int):Option (Int):=jon (Gb n a)<|reg<|cnd (decide (a=5)) (Gb n a (decide (a=5)))<|reg<|cnd (decide (a=6)) (Gb n a (decide (a=6)))<|reg<|cnd (decide (a=7)) (Gb n a (decide (a=7)))<|Gb n a (decide (a=8))
def Fj (n:Nat)(a:(List Int))(e:Int)(c:Int)(b:Int->Option (Int))(d:Bool):Option (Int):=cnd (d) (some 9)<|b (IntKind.wrap .i64 (c+1))
def Ew (n:Nat)(a:(List Int))(i:Int)(b:Option (Int)):Nat->Int->Option (Int) |0,_=>none |d+1,c=>cnd (decide (c<((a.map aI).length:Int))) (bnd (Ta n i) fun e=>jon (Fj n a i c (Ew n a i b d))<|reg<|cnd (decide (0<=e)) (idx a c fun f=>cnd (!decide (f=e)) (Fj n a i c (Ew n a i b d) true)<|cnd (decide (i=9)) (idx a c fun g=>idx a 0 fun h=>Fj n a i c (Ew n a i b d) (!decide (g=h)))<|Fj n a i c (Ew n a i b d) false)<|cnd (decide (i=9)) (idx a c fun j=>idx a 0 fun k=>Fj n a i c (Ew n a i b d) (!decide (j=k)))<|Fj n a i c (Ew n a i b d) false)<|b
def Ww (n:Nat)(b:Int)(a:(List Int)):Option (Int):=Ew n a b (some 0) n 0
def Dp (n:Nat)(a:Bool):Option (Aa):=cnd (a) (some (⟨1,1,ByteArray.empty⟩))<|some (⟨1,0,ByteArray.empty⟩)
def Kb (n:Nat)(b:Int×Int×ByteArray):Option (Aa):=some (⟨b.1,b.2.1,b.2.2⟩)
def Ka (n:Nat)(b:Int×Int×ByteArray):Option (Aa):=some (⟨b.1,b.2.1,b.2.2⟩)
def Lp (n:Nat)(i:Int)(a:(List Aa)):Option (Aa):=cnd (decide (i=5)) (idx a 0 fun z=>idx a 1 fun y=>some (⟨0,(IntKind.wrap .i64 (z.fNum+y.fNum)),ByteArray.empty⟩))<|cnd (decide (i=6)) (idx a 0 fun x=>idx a 1 fun w=>some (⟨0,(IntKind.wrap .i64 (x.fNum-w.fNum)),ByteArray.empty⟩))<|cnd (decide (i=7)) (idx a 0 fun v=>idx a 1 fun u=>bnd (Dp n (decide (v.fNum<u.fNum))) fun t=>some t)<|cnd (decide (i=8)) (idx a 0 fun r=>idx a 1 fun m=>bnd (Dp n (decide (r.fNum<=m.fNum))) fun h=>some h)<|cnd (decide (i=9)) (idx a 0 fun b=>idx a 1 fun c=>bnd (Dp n (decide (b.fKind=c.fKind) && (decide (b.fNum=c.fNum) && ((b.fText.toList == c.fText.toList) && true)))) fun j=>some j)<|cnd (decide (i=10)) (jon (Kb n)<|reg<|idx a 0 fun k=>cnd (decide (k.fNum=1)) (idx a 1 fun l=>bnd (Dp n (decide (l.fNum=1))) fun d=>Kb n (d.fKind,d.fNum,d.fText))<|bnd (Dp n false) fun e=>Kb n (e.fKind,e.fNum,e.fText))<|cnd (decide (i=11)) (jon (Ka n)<|reg<|idx a 0 fun o=>cnd (decide (o.fNum=1)) (bnd (Dp n true) fun f=>Ka n (f.fKind,f.fNum,f.fText))<|idx a 1 fun p=>bnd (Dp n (decide (p.fNum=1))) fun g=>Ka n (g.fKind,g.fNum,g.fText))<|idx a 0 fun q=>bnd (Dp n (!decide (q.fNum=1))) fun s=>some s
def Pq (n:Nat)(b:Ay->Ao->Int->A8->Option (Aa×Int))(i:A8)(k:Int)(l:Ao)(a:Ay)(d:(List Aa)->(List Int)->Option (Aa×Int)):Nat->Int×(List Aa)×(List Int)->Option (Aa×Int) |0,_=>none |f+1,c=>cnd (decide (c.1<((a.fArgs.map idA).length:Int))) (idxD C1 a.fArgs c.1 fun g=>bnd (b g (⟨l.fVars⟩:Ao) k i) fun e=>cnd (!decide (e.2=0)) (some (⟨0,0,ByteArray.empty⟩,e.2))<|app c.2.1 [e.1] 32 fun h=>app c.2.2 [e.1.fKind] 8 fun j=>(Pq n b i k l a d f) ((IntKind.wrap .i64 (c.1+1)),h,j))<|d c.2.1 c.2.2
def H0:Nat->Ay->Ao->Int->A8->Option (Aa×Int) |0,_,_,_,_=>none |n+1,a,i,h,g=>cnd (decide (((a.fArgs.map idA).length:Int)=0)) (bnd (Qr n a (⟨i.fVars⟩:Ao) h g) fun f=>some (f.1,f.2))<|Pq n (H0 n) g h i a (fun b c=>bnd (Ww n a.fOp c) fun d=>cnd (!decide (d=0)) (some (⟨0,0,ByteArray.empty⟩,d))<|bnd (Lp n a.fOp b) fun e=>some (e,0)) n (0,[],[])
def Xm (n:Nat)(c:Ay)(f:Ao)(e:Int)(d:A8):Option (Aa×Int):=bnd (Fz n c) fun b=>cnd (!decide (b=0)) (some (⟨0,0,ByteArray.empty⟩,b))<|bnd (H0 n c (⟨f.fVars⟩:Ao) e d) fun a=>some (a.1,a.2)
def Kc (n:Nat)(b:Bool):Option (Bool):=some b
def Fw (n:Nat)(f:Ay)(e:Ao)(d:Int)(c:A8):Option (Bool):=bnd (Xm n f (⟨e.fVars⟩:Ao) d c) fun a=>jon (Kc n)<|reg<|cnd (decide (a.2=0)) (bnd (Dp n true) fun b=>Kc n (decide (a.1.fKind=b.fKind) && (decide (a.1.fNum=b.fNum) && ((a.1.fText.toList == b.fText.toList) && true))))<|Kc n false
structure Bg where
 fTime:Int
 fSource:Int
 fSeq:Int
deriving DecidableEq,Inhabited
def Bf (x:Bg):AV:=.agg [aI (x.fTime),aI (x.fSource),aI (x.fSeq)]
abbrev zww (x:Bg):List AV:=[aI (x.fTime),aI (x.fSource),aI (x.fSeq)]
structure B8 where
 fVar:Int
 fRef:Bg
deriving DecidableEq,Inhabited
def Aq (x:B8):AV:=.agg [aI (x.fVar),aI (x.fRef.fTime),aI (x.fRef.fSource),aI (x.fRef.fSeq)]
abbrev ziz (x:B8):List AV:=[aI (x.fVar),aI (x.fRef.fTime),aI (x.fRef.fSource),aI (x.fRef.fSeq)]
structure Ab where
 fBindings:(List B8)
deriving DecidableEq,Inhabited
def Ap (x:Ab):AV:=.agg [.sl 4 (x.fBindings.map Aq)]
abbrev G5 (x:Ab):List AV:=[.sl 4 (x.fBindings.map Aq)]
def Qi (n:Nat)(b:Bg)(a:Bg):Option (Int):=cnd (!decide (b.fTime=a.fTime)) (cnd (decide (b.fTime<a.fTime)) (some (-1))<|some 1)<|cnd (!decide (b.fSource=a.fSource)) (cnd (decide (b.fSource<a.fSource)) (some (-1))<|some 1)<|cnd (decide (b.fSeq<a.fSeq)) (some (-1))<|cnd (decide (a.fSeq<b.fSeq)) (some 1)<|some 0
def Tx (n:Nat)(b:B8)(a:B8):Option (Int):=bnd (Qi n (⟨b.fRef.fTime,b.fRef.fSource,b.fRef.fSeq⟩:Bg) (⟨a.fRef.fTime,a.fRef.fSource,a.fRef.fSeq⟩:Bg)) fun c=>cnd (!decide (c=0)) (some c)<|cnd (decide (b.fVar<a.fVar)) (some (-1))<|cnd (decide (a.fVar<b.fVar)) (some 1)<|some 0
def Js (n:Nat)(a:Ab)(i:Ab)(b:Int)(e:Option (Int))(f:Int->Option (Int))(h:Bool):Option (Int):=cnd (h) (idx i.fBindings b fun c=>idx a.fBindings b fun d=>bnd (Tx n (⟨c.fVar,⟨c.fRef.fTime,c.fRef.fSource,c.fRef.fSeq⟩⟩:B8) (⟨d.fVar,⟨d.fRef.fTime,d.fRef.fSource,d.fRef.fSeq⟩⟩:B8)) fun g=>cnd (!decide (g=0)) (some g)<|f (IntKind.wrap .i64 (b+1)))<|e
def Hu (n:Nat)(a:Ab)(e:Ab)(b:Option (Int)):Nat->Int->Option (Int) |0,_=>none |d+1,c=>jon (Js n a e c b (Hu n a e b d))<|reg<|cnd (decide (c<((e.fBindings.map Aq).length:Int))) (Js n a e c b (Hu n a e b d) (decide (c<((a.fBindings.map Aq).length:Int))))<|Js n a e c b (Hu n a e b d) false
def Fu (n:Nat)(b:Ab)(a:Ab):Option (Int):=Hu n a b (cnd (decide (((b.fBindings.map Aq).length:Int)<((a.fBindings.map Aq).length:Int))) (some (-1))<|cnd (decide (((a.fBindings.map Aq).length:Int)<((b.fBindings.map Aq).length:Int))) (some 1)<|some 0) n 0
structure Ai where
 fScope:Int
 fTime:Int
deriving DecidableEq,Inhabited
def Ae (x:Ai):AV:=.agg [aI (x.fScope),aI (x.fTime)]
abbrev zad (x:Ai):List AV:=[aI (x.fScope),aI (x.fTime)]
structure A0 where
 fState:Int
 fBindings:(List B8)
 fStarts:(List Ai)
deriving DecidableEq,Inhabited
def A4 (x:A0):AV:=.agg [aI (x.fState),.sl 4 (x.fBindings.map Aq),.sl 2 (x.fStarts.map Ae)]
abbrev Bi (x:A0):List AV:=[aI (x.fState),.sl 4 (x.fBindings.map Aq),.sl 2 (x.fStarts.map Ae)]
def Ht (n:Nat)(a:A0)(g:A0)(e:Int)(b:Int->Option (Int))(c:Ai)(d:Ai)(f:Bool):Option (Int):=cnd (f) (some (-1))<|cnd (!(decide (c.fScope=d.fScope) && (decide (c.fTime=d.fTime) && true))) (some 1)<|b (IntKind.wrap .i64 (e+1))
def Jr (n:Nat)(a:A0)(h:A0)(b:Int)(f:Option (Int))(c:Int->Option (Int))(g:Bool):Option (Int):=cnd (g) (idx h.fStarts b fun d=>idx a.fStarts b fun e=>jon (Ht n a h b c d e)<|reg<|cnd (decide (d.fScope<e.fScope)) (Ht n a h b c d e true)<|cnd (decide (d.fScope=e.fScope)) (Ht n a h b c d e (decide (d.fTime<e.fTime)))<|Ht n a h b c d e false)<|f
def Hs (n:Nat)(a:A0)(e:A0)(b:Option (Int)):Nat->Int->Option (Int) |0,_=>none |d+1,c=>jon (Jr n a e c b (Hs n a e b d))<|reg<|cnd (decide (c<((e.fStarts.map Ae).length:Int))) (Jr n a e c b (Hs n a e b d) (decide (c<((a.fStarts.map Ae).length:Int))))<|Jr n a e c b (Hs n a e b d) false
def Km (n:Nat)(b:A0)(a:A0):Option (Int):=cnd (!decide (b.fState=a.fState)) (cnd (decide (b.fState<a.fState)) (some (-1))<|some 1)<|bnd (Fu n (⟨b.fBindings⟩:Ab) (⟨a.fBindings⟩:Ab)) fun c=>cnd (!decide (c=0)) (some c)<|Hs n a b (cnd (decide (((b.fStarts.map Ae).length:Int)<((a.fStarts.map Ae).length:Int))) (some (-1))<|cnd (decide (((a.fStarts.map Ae).length:Int)<((b.fStarts.map Ae).length:Int))) (some 1)<|some 0) n 0
def L6 (n:Nat)(i:A0)(a:(List A0))(b:Int)(c:Bool):Option ((List A0)):=cnd (c) (some a)<|sls a 0 b fun d=>app ([]:List A0) d 56 fun e=>app e [i] 56 fun f=>sls a b ((a.map A4).length:Int) fun g=>app f g 56 fun h=>some h
def L5 (n:Nat)(a:A0)(f:(List A0))(b:Int)(c:Int->Option ((List A0)))(d:Int->Option ((List A0)))(e:Bool):Option ((List A0)):=cnd (e) (d (IntKind.wrap .i64 (b+1)))<|c b
def Ic (n:Nat)(g:A0)(a:(List A0))(b:Int->Option ((List A0))):Nat->Int->Option ((List A0)) |0,_=>none |d+1,c=>jon (L5 n g a c b (Ic n g a b d))<|reg<|cnd (decide (c<((a.map A4).length:Int))) (idx a c fun e=>bnd (Km n e g) fun f=>L5 n g a c b (Ic n g a b d) (decide (f<0)))<|L5 n g a c b (Ic n g a b d) false
def Lz (n:Nat)(a:(List A0))(e:A0):Option ((List A0)):=Ic n e a (fun b=>jon (L6 n e a b)<|reg<|cnd (decide (b<((a.map A4).length:Int))) (idx a b fun c=>bnd (Km n c e) fun d=>L6 n e a b (decide (d=0)))<|L6 n e a b false) n 0
def Iu (n:Nat)(b:Bool):Option (Bool):=some b
def Rg (n:Nat)(a:Int):Option (Bool):=jon (Iu n)<|reg<|cnd (decide (0<=a)) (Iu n (decide (a<=5)))<|Iu n false
def H3 (n:Nat)(b:Bool):Option (Bool):=some b
def Re (n:Nat)(a:Int)(b:Aa):Option (Bool):=jon (H3 n)<|reg<|cnd (decide (b.fKind=0)) (H3 n true)<|cnd (!decide (a=1)) (cnd (!decide (a=2)) (H3 n (!decide (a=3)))<|H3 n false)<|H3 n false
def Me (n:Nat)(d:Int)(b:Aa):Option (Int):=bnd (H8 n b) fun a=>cnd (!decide (a=0)) (some a)<|bnd (Re n d b) fun c=>cnd (!(c)) (some 9)<|some 0
def Xt (n:Nat)(b:Int)(a:Aa):Option (Aa):=cnd (decide (b=0)) (some (⟨0,0,ByteArray.empty⟩))<|some a
def Xi (n:Nat):Option (Aa):=some (⟨0,0,ByteArray.empty⟩)
def Xh (n:Nat)(b:Aa)(a:Aa):Option (Aa×Aa×Aa):=some (⟨0,(IntKind.wrap .i64 (b.fNum+a.fNum)),ByteArray.empty⟩,b,a)
def Xg (n:Nat)(b:Aa)(a:Aa):Option (Aa×Aa×Aa):=some (⟨0,(min b.fNum a.fNum),ByteArray.empty⟩,b,a)
def Xf (n:Nat)(b:Aa)(a:Aa):Option (Aa×Aa×Aa):=some (⟨0,(max b.fNum a.fNum),ByteArray.empty⟩,b,a)
def Xe (n:Nat)(a:Aa):Option (Aa×Aa):=some (a,a)
def Xd (n:Nat)(a:Aa):Option (Aa×Aa):=some (a,a)
def Ut (n:Nat)(a:Int)(c:Aa)(b:Aa):Option (Aa):=natc a 0 (bnd (Xi n) fun i=>some i)<|natc a 1 (bndM 15 (Xh n c b) fun h=>some h.1)<|natc a 2 (bndM 15 (Xg n c b) fun g=>some g.1)<|natc a 3 (bndM 15 (Xf n c b) fun f=>some f.1)<|natc a 4 (bndM 15 (Xe n c) fun e=>some e.1)<|natc a 5 (bndM 15 (Xd n b) fun d=>some d.1)<|none
def Xu (n:Nat)(a:C0)(b:C0):Option (C0):=cnd (decide (a.fCount=0)) (some b)<|cnd (decide (b.fCount=0)) (some a)<|bnd (Ut n a.fKind a.fValue b.fValue) fun c=>some (⟨a.fKind,(IntKind.wrap .i64 (a.fCount+b.fCount)),c⟩)
def Xx (n:Nat)(e:C0)(d:Aa)(a:Int):Option (C0):=bnd (Xt n a d) fun c=>bnd (Xu n e (⟨a,1,c⟩:C0)) fun b=>some b
def Qp (n:Nat)(e:Int)(a:(List Aa))(c:Int->Int->Int->Int->ByteArray->Option (C0)):Nat->Int×Int×Int×Int×Int×ByteArray->Option (C0) |0,_=>none |f+1,b=>cnd (decide (b.1<((a.map Af).length:Int))) (idx a b.1 fun g=>bnd (Xx n (⟨b.2.1,b.2.2.1,⟨b.2.2.2.1,b.2.2.2.2.1,b.2.2.2.2.2⟩⟩:C0) g e) fun d=>(Qp n e a c f) ((IntKind.wrap .i64 (b.1+1)),d.fKind,d.fCount,d.fValue.fKind,d.fValue.fNum,d.fValue.fText))<|c b.2.1 b.2.2.1 b.2.2.2.1 b.2.2.2.2.1 b.2.2.2.2.2
def V0 (n:Nat)(a:C0)(h:(List Aa))(g:Int):Option (C0):=Qp n g h (fun b c d e f=>some (⟨b,c,⟨d,e,f⟩⟩)) n (0,a.fKind,a.fCount,a.fValue.fKind,a.fValue.fNum,a.fValue.fText)
def Ly (n:Nat)(a:C0)(b:Bool):Option (Int):=cnd (b) (some 2)<|reg<|cnd (decide (a.fCount=0)) (cnd (!((decide (a.fValue.fKind=0) && (decide (a.fValue.fNum=0) && ((a.fValue.fText.toList == ByteArray.empty.toList) && true))))) (some 3)<|some 0)<|cnd (decide (a.fKind=0)) (cnd (!((decide (a.fValue.fKind=0) && (decide (a.fValue.fNum=0) && ((a.fValue.fText.toList == ByteArray.empty.toList) && true))))) (some 3)<|some 0)<|reg<|cnd (decide (a.fKind=1)) (reg<|cnd (decide (a.fValue.fKind=0)) (cnd ((a.fValue.fText.toList == ByteArray.empty.toList)) (cnd (decide ((IntKind.wrap .i64 (0-(IntKind.wrap .i64 (a.fCount*1099511627776))))<=a.fValue.fNum)) (cnd (!(decide (a.fValue.fNum<=(IntKind.wrap .i64 (a.fCount*1099511627776))))) (some 3)<|some 0)<|some 3)<|some 3)<|some 3)<|reg<|bnd (H8 n a.fValue) fun d=>cnd (decide (d=0)) (bnd (Re n a.fKind a.fValue) fun c=>cnd (!(c)) (some 3)<|some 0)<|some 3
def V7 (n:Nat)(a:C0):Option (Int):=bnd (Rg n a.fKind) fun b=>cnd (!(b)) (some 1)<|jon (Ly n a)<|reg<|cnd (decide (a.fCount<0)) (Ly n a true)<|Ly n a (decide (4096<a.fCount))
def Lu (n:Nat)(a:Aa)(c:C0)(b:Bool):Option (Aa×Int):=cnd (b) (some (a,0))<|some (c.fValue,0)
def R6 (n:Nat)(a:C0)(b:Aa):Option (Aa×Int):=bnd (V7 n a) fun d=>cnd (!decide (d=0)) (some (⟨0,0,ByteArray.empty⟩,d))<|bnd (Me n a.fKind b) fun c=>cnd (!decide (c=0)) (some (⟨0,0,ByteArray.empty⟩,c))<|cnd (decide (a.fKind=0)) (some (⟨0,a.fCount,ByteArray.empty⟩,0))<|jon (Lu n b a)<|reg<|cnd (decide (a.fCount=0)) (Lu n b a (!decide (a.fKind=1)))<|Lu n b a false
def Rh (n:Nat)(h:Aa)(a:(List Aa))(g:Int)(b:Option (Aa×Int)):Nat->Int->Option (Aa×Int) |0,_=>none |d+1,c=>cnd (decide (c<((a.map Af).length:Int))) (idx a c fun f=>bnd (Me n g f) fun e=>cnd (!decide (e=0)) (some (⟨0,0,ByteArray.empty⟩,e))<|(Rh n h a g b d) (IntKind.wrap .i64 (c+1)))<|b
def Rs (n:Nat)(a:Int)(d:(List Aa))(e:Aa):Option (Aa×Int):=bnd (Rg n a) fun f=>cnd (!(f)) (some (⟨0,0,ByteArray.empty⟩,1))<|cnd (decide (4096<((d.map Af).length:Int))) (some (⟨0,0,ByteArray.empty⟩,5))<|Rh n e d a (bnd (V0 n (⟨a,0,⟨0,0,ByteArray.empty⟩⟩:C0) d a) fun c=>bnd (R6 n c e) fun b=>some (b.1,b.2)) n 0
def Vz (n:Nat)(a:Int):Option (Bool):=some (!decide (a=a))
def D0 (n:Nat)(b:Int)(a:Int):Option (Int):=bnd (Vz n b) fun d=>bnd (Vz n a) fun c=>cnd (d) (cnd (c) (some 0)<|some (-1))<|cnd (c) (some 1)<|cnd (decide (b<a)) (some (-1))<|cnd (decide (a<b)) (some 1)<|some 0
def Rw (n:Nat)(a:(List Int))(b:Option (Int)):Nat->Int->Option (Int) |0,_=>none |d+1,c=>cnd (decide (c<((a.map aI).length:Int))) (idx a c fun e=>cnd (!decide (e=0)) (some e)<|(Rw n a b d) (IntKind.wrap .i64 (c+1)))<|b
def Ek (n:Nat)(a:(List Int)):Option (Int):=Rw n a (some 0) n 0
def Vr (n:Nat)(b:Bg)(a:Bg):Option (Int):=bnd (D0 n b.fTime a.fTime) fun f=>bnd (D0 n b.fSource a.fSource) fun e=>bnd (D0 n b.fSeq a.fSeq) fun d=>bnd (Ek n ([f,e,d])) fun c=>some c
def V6 (n:Nat)(b:B8)(a:B8):Option (Int):=bnd (Vr n (⟨b.fRef.fTime,b.fRef.fSource,b.fRef.fSeq⟩:Bg) (⟨a.fRef.fTime,a.fRef.fSource,a.fRef.fSeq⟩:Bg)) fun e=>bnd (D0 n b.fVar a.fVar) fun d=>bnd (Ek n ([e,d])) fun c=>some c
def Pr (n:Nat)(a:(List B8))(h:(List B8))(c:Option (Int)):Nat->Int->Option (Int) |0,_=>none |f+1,b=>cnd (decide (b<((h.map Aq).length:Int))) (idx h b fun d=>cnd (decide (((a.map Aq).length:Int)<=b)) (some 1)<|idx a b fun e=>bnd (V6 n (⟨d.fVar,⟨d.fRef.fTime,d.fRef.fSource,d.fRef.fSeq⟩⟩:B8) (⟨e.fVar,⟨e.fRef.fTime,e.fRef.fSource,e.fRef.fSeq⟩⟩:B8)) fun g=>cnd (!decide (g=0)) (some g)<|(Pr n a h c f) (IntKind.wrap .i64 (b+1)))<|c
def U7 (n:Nat)(b:(List B8))(a:(List B8)):Option (Int):=Pr n a b (cnd (decide (((b.map Aq).length:Int)<((a.map Aq).length:Int))) (some (-1))<|some 0) n 0
def Rl (n:Nat)(c:Ab)(b:Ab):Option (Int):=bnd (U7 n c.fBindings b.fBindings) fun a=>some a
def Ve (n:Nat)(b:Ai)(a:Ai):Option (Int):=bnd (D0 n b.fScope a.fScope) fun e=>bnd (D0 n b.fTime a.fTime) fun d=>bnd (Ek n ([e,d])) fun c=>some c
def O1 (n:Nat)(a:(List Ai))(h:(List Ai))(c:Option (Int)):Nat->Int->Option (Int) |0,_=>none |d+1,b=>cnd (decide (b<((h.map Ae).length:Int))) (idx h b fun f=>cnd (decide (((a.map Ae).length:Int)<=b)) (some 1)<|idx a b fun g=>bnd (Ve n f g) fun e=>cnd (!decide (e=0)) (some e)<|(O1 n a h c d) (IntKind.wrap .i64 (b+1)))<|c
def Tb (n:Nat)(b:(List Ai))(a:(List Ai)):Option (Int):=O1 n a b (cnd (decide (((b.map Ae).length:Int)<((a.map Ae).length:Int))) (some (-1))<|some 0) n 0
def Vi (n:Nat)(b:A0)(a:A0):Option (Int):=bnd (D0 n b.fState a.fState) fun f=>bnd (Rl n (⟨b.fBindings⟩:Ab) (⟨a.fBindings⟩:Ab)) fun e=>bnd (Tb n b.fStarts a.fStarts) fun d=>bnd (Ek n ([f,e,d])) fun c=>some c
def F4 (n:Nat)(b:Bool):Option (Bool):=some b
def Vo (n:Nat)(a:A8):Option (Bool):=jon (F4 n)<|reg<|cnd (decide (0<=a.fTime)) (cnd (decide (a.fTime<=1099511627776)) (cnd (decide (0<=a.fSource)) (cnd (decide (a.fSource<8)) (cnd (decide (0<=a.fSeq)) (F4 n (decide (a.fSeq<=1099511627776)))<|F4 n false)<|F4 n false)<|F4 n false)<|F4 n false)<|F4 n false
def J5 (n:Nat)(a:A8):Option (Bg):=some (⟨a.fTime,a.fSource,a.fSeq⟩)
def N1 (n:Nat)(b:Bg)(a:Bg):Option (Int):=bnd (D0 n b.fTime a.fTime) fun f=>bnd (D0 n b.fSource a.fSource) fun e=>bnd (D0 n b.fSeq a.fSeq) fun d=>bnd (Ek n ([f,e,d])) fun c=>some c
def Mv (n:Nat)(b:B8)(d:A8):Option (Bool):=bnd (J5 n d) fun a=>bnd (N1 n (⟨b.fRef.fTime,b.fRef.fSource,b.fRef.fSeq⟩:Bg) (⟨a.fTime,a.fSource,a.fSeq⟩:Bg)) fun c=>some (decide (0<=c))
def Ol (n:Nat)(e:A8)(a:(List B8))(c:Option (Int)):Nat->Int->Option (Int) |0,_=>none |f+1,b=>cnd (decide (b<((a.map Aq).length:Int))) (idx a b fun d=>bnd (Mv n (⟨d.fVar,⟨d.fRef.fTime,d.fRef.fSource,d.fRef.fSeq⟩⟩:B8) e) fun g=>cnd (g) (some b)<|(Ol n e a c f) (IntKind.wrap .i64 (b+1)))<|c
def Tn (n:Nat)(a:(List B8))(b:A8):Option (Int):=Ol n b a (some (-1)) n 0
def T5 (n:Nat)(c:(List B8))(b:A8):Option (Bool):=bnd (Tn n c b) fun a=>some (decide (0<=a))
def Yi (n:Nat)(c:A0)(b:A8):Option (Bool):=bnd (T5 n c.fBindings b) fun a=>some a
def Mw (n:Nat)(c:A0)(b:A8):Option (Bool):=bnd (Yi n c b) fun a=>some a
def Om (n:Nat)(d:A8)(a:(List A0))(c:Option (Int)):Nat->Int->Option (Int) |0,_=>none |e+1,b=>cnd (decide (b<((a.map A4).length:Int))) (idx a b fun f=>bnd (Mw n f d) fun g=>cnd (g) (some b)<|(Om n d a c e) (IntKind.wrap .i64 (b+1)))<|c
def Tp (n:Nat)(a:(List A0))(b:A8):Option (Int):=Om n b a (some (-1)) n 0
def T6 (n:Nat)(c:(List A0))(b:A8):Option (Bool):=bnd (Tp n c b) fun a=>some (decide (0<=a))
def N2 (n:Nat)(d:(List A0))(a:A8):Option (Int):=bnd (Vo n a) fun c=>cnd (!(c)) (some 2)<|bnd (T6 n d a) fun b=>cnd (b) (some 14)<|some 0
attribute [irreducible] Kd Ef Fp I5 Kr Gk C9 Gs Ks Kt I6 E1 L8 I0 Dn Fn Gj Ml Mo Mq J1 H5 Ca Mr Ms J2 E6 Ls Ip Lt E4 G2 Ey I7 Gl Ke Kf Kg Ij K3 K2 Hq Gb Fj Kb Ka Kc Js Ht Jr L6 L5 Iu H3 Ly Lu F4
end Go.Proofs.YtidhlpjgifoneaaGreat
