/- What some functions compute, over plain values. -/
import Derived.Test.YtidhlpjgifoneaaGreatK17
set_option linter.unusedVariables false
set_option linter.unusedSimpArgs false
set_option maxRecDepth 100000
set_option maxHeartbeats 8000000
namespace Go.Proofs.YtidhlpjgifoneaaGreat
open Go.RowKit
open IntKind renaming wrap->aA
structure Ab where
 fKind:Int
 fNum:Int
 fText:ByteArray
deriving DecidableEq,Inhabited
def Ag (x:Ab):AV:=.agg [aI (x.fKind),aI (x.fNum),.str (x.fText)]
abbrev Cg (x:Ab):List AV:=[aI (x.fKind),aI (x.fNum),.str (x.fText)]
structure B1 where
 fOp:Int
 fArgs:(List AV)
 fVar:Int
 fField:Int
 fKind:Int
 fValue:Ab
deriving Inhabited
def Av (x:B1):AV:=.agg [aI (x.fOp),.sl 8 (x.fArgs.map idA),aI (x.fVar),aI (x.fField),aI (x.fKind),aI (x.fValue.fKind),aI (x.fValue.fNum),.str (x.fValue.fText)]
abbrev Cm (x:B1):List AV:=[aI (x.fOp),.sl 8 (x.fArgs.map idA),aI (x.fVar),aI (x.fField),aI (x.fKind),aI (x.fValue.fKind),aI (x.fValue.fNum),.str (x.fValue.fText)]
def C3:AV->Option B1 |.agg [.int .i64 h,.sl 8 g,.int .i64 f,.int .i64 e,.int .i64 d,.int .i64 c,.int .i64 b,.str a]=>some ⟨h,g,f,e,d,⟨c,b,a⟩⟩ |_=>none
theorem D4 (a:AV)(y:B1)(h:C3 a=some y):a=Av y:=by
 unfold C3 at h;split at h
 ·injection h with h;subst h;simp [Av,aI,T9]
 ·cases h
theorem N9 (y:B1):C3 (Av y)=some y:=by simp [C3,Av,aI,T9]
def L7 (n:Nat)(b:B1->Int->Option (Int))(a:Int)(i:B1)(c:Int×Int)(d:Int->Option (Int))(e:(Int×Int)->Option (Int))(f:Bool):Option (Int):=cnd (f) (idxD C3 i.fArgs c.2 fun g=>bnd (b g a) fun h=>e ((aA .i64 (c.1+h)),(aA .i64 (c.2+1))))<|d c.1
def Ic (n:Nat)(b:B1->Int->Option (Int))(a:Int)(f:B1)(c:Int->Option (Int)):Nat->Int×Int->Option (Int) |0,_=>none |e+1,d=>jon (L7 n b a f d c (Ic n b a f c e))<|reg<|cnd (decide (d.2<((f.fArgs.map idA).length:Int))) (L7 n b a f d c (Ic n b a f c e) (decide (d.1<=a)))<|L7 n b a f d c (Ic n b a f c e) false
def Fz:Nat->B1->Int->Option (Int) |0,_,_=>none |n+1,c,a=>Ic n (Fz n) a c (fun b=>some b) n (1,0)
def Q4 (n:Nat)(b:B1->Option (Int))(a:B1)(d:Int->Option (Int)):Nat->Int×Int->Option (Int) |0,_=>none |e+1,c=>cnd (decide (c.2<((a.fArgs.map idA).length:Int))) (idxD C3 a.fArgs c.2 fun f=>bnd (b f) fun g=>(Q4 n b a d e) ((max c.1 g),(aA .i64 (c.2+1))))<|d c.1
def Fy:Nat->B1->Option (Int) |0,_=>none |n+1,a=>Q4 n (Fy n) a (fun b=>some (aA .i64 (b+1))) n (0,0)
def Eh (n:Nat)(b:Bool):Option (Int):=cnd (b) (some 2)<|some (-1)
def Fu (n:Nat)(a:Int)(b:Bool):Option (Int):=cnd (b) (some 0)<|cnd (decide (a=12)) (some 1)<|jon (Eh n)<|reg<|cnd (decide (a=5)) (Eh n (decide (a=5)))<|reg<|cnd (decide (a=6)) (Eh n (decide (a=6)))<|reg<|cnd (decide (a=7)) (Eh n (decide (a=7)))<|reg<|cnd (decide (a=8)) (Eh n (decide (a=8)))<|reg<|cnd (decide (a=9)) (Eh n (decide (a=9)))<|reg<|cnd (decide (a=10)) (Eh n (decide (a=10)))<|Eh n (decide (a=11))
def Uq (n:Nat)(a:Int):Option (Int):=jon (Fu n a)<|reg<|cnd (decide (a=0)) (Fu n a (decide (a=0)))<|reg<|cnd (decide (a=1)) (Fu n a (decide (a=1)))<|reg<|cnd (decide (a=2)) (Fu n a (decide (a=2)))<|reg<|cnd (decide (a=3)) (Fu n a (decide (a=3)))<|Fu n a (decide (a=4))
def Ii (n:Nat)(b:Bool)(c:Bool):Option (Bool×Bool):=some (c,b)
def Ll (n:Nat)(a:Int)(b:Bool):Option (Bool×Bool):=jon (Ii n b)<|reg<|cnd (b) (Ii n b true)<|cnd (decide (a=2)) (Ii n b true)<|Ii n b (decide (a=3))
def Rr (n:Nat)(a:Int):Option (Bool×Bool):=jon (Ll n a)<|reg<|cnd (decide (a=1)) (Ll n a true)<|Ll n a (decide (a=4))
def Ha (n:Nat)(a:Ab):Option (Int):=cnd (decide (a.fKind<0)) (some 1)<|cnd (decide (2<a.fKind)) (some 1)<|cnd (decide (a.fKind=2)) (cnd (!decide (a.fNum=0)) (some 3)<|cnd (decide (64<((a.fText.size:Nat):Int))) (some 13)<|some 0)<|cnd (!(a.fText.toList == ByteArray.empty.toList)) (some 3)<|cnd (decide (a.fKind=1)) (cnd (decide (a.fNum<0)) (some 2)<|cnd (decide (1<a.fNum)) (some 2)<|cnd (decide (a.fNum<(-1099511627776))) (some 2)<|cnd (decide (1099511627776<a.fNum)) (some 2)<|some 0)<|cnd (decide (a.fNum<(-1099511627776))) (some 2)<|cnd (decide (1099511627776<a.fNum)) (some 2)<|some 0
def Gq (n:Nat)(b:Bool):Option (Bool):=some b
def Mg (n:Nat)(a:Int)(b:Ab):Option (Bool):=jon (Gq n)<|reg<|cnd (decide (b.fKind=0)) (Gq n true)<|cnd (decide (a=0)) (Gq n true)<|cnd (decide (a=4)) (Gq n true)<|Gq n (decide (a=5))
def Ca (n:Nat)(b:Bool):Option (Int):=cnd (b) (some 3)<|some 0
def Gw (n:Nat)(a:B1)(d:Bool×Bool)(b:Bool)(c:Bool):Option (Int):=cnd (c) (some 9)<|jon (Ca n)<|reg<|cnd (!(d.1)) (cnd (!decide (a.fVar=0)) (Ca n true)<|cnd (!(d.2)) (cnd (!decide (a.fField=0)) (Ca n true)<|cnd (!(decide (a.fOp=4))) (cnd (!decide (a.fKind=0)) (Ca n true)<|cnd (!(b)) (Ca n (!(decide (a.fValue.fKind=0) && (decide (a.fValue.fNum=0) && ((a.fValue.fText.toList == ByteArray.empty.toList) && true)))))<|Ca n false)<|cnd (!(b)) (Ca n (!(decide (a.fValue.fKind=0) && (decide (a.fValue.fNum=0) && ((a.fValue.fText.toList == ByteArray.empty.toList) && true)))))<|Ca n false)<|cnd (!(decide (a.fOp=4))) (cnd (!decide (a.fKind=0)) (Ca n true)<|cnd (!(b)) (Ca n (!(decide (a.fValue.fKind=0) && (decide (a.fValue.fNum=0) && ((a.fValue.fText.toList == ByteArray.empty.toList) && true)))))<|Ca n false)<|cnd (!(b)) (Ca n (!(decide (a.fValue.fKind=0) && (decide (a.fValue.fNum=0) && ((a.fValue.fText.toList == ByteArray.empty.toList) && true)))))<|Ca n false)<|cnd (!(d.2)) (cnd (!decide (a.fField=0)) (Ca n true)<|cnd (!(decide (a.fOp=4))) (cnd (!decide (a.fKind=0)) (Ca n true)<|cnd (!(b)) (Ca n (!(decide (a.fValue.fKind=0) && (decide (a.fValue.fNum=0) && ((a.fValue.fText.toList == ByteArray.empty.toList) && true)))))<|Ca n false)<|cnd (!(b)) (Ca n (!(decide (a.fValue.fKind=0) && (decide (a.fValue.fNum=0) && ((a.fValue.fText.toList == ByteArray.empty.toList) && true)))))<|Ca n false)<|cnd (!(decide (a.fOp=4))) (cnd (!decide (a.fKind=0)) (Ca n true)<|cnd (!(b)) (Ca n (!(decide (a.fValue.fKind=0) && (decide (a.fValue.fNum=0) && ((a.fValue.fText.toList == ByteArray.empty.toList) && true)))))<|Ca n false)<|cnd (!(b)) (Ca n (!(decide (a.fValue.fKind=0) && (decide (a.fValue.fNum=0) && ((a.fValue.fText.toList == ByteArray.empty.toList) && true)))))<|Ca n false
def Lm (n:Nat)(a:B1)(d:Bool×Bool)(b:Bool)(_:Unit):Option (Int):=jon (Gw n a d b)<|reg<|cnd (decide (a.fOp=4)) (bnd (Mg n a.fKind a.fValue) fun c=>cnd (!(c)) (Gw n a d b true)<|cnd (decide (a.fKind=1)) (Gw n a d b (!(decide (a.fValue.fKind=0) && (decide (a.fValue.fNum=0) && ((a.fValue.fText.toList == ByteArray.empty.toList) && true)))))<|Gw n a d b false)<|Gw n a d b false
def Ln (n:Nat)(a:B1)(d:Bool×Bool)(b:Bool):Option (Int):=jon (Lm n a d b)<|reg<|cnd (b) (bnd (Ha n a.fValue) fun c=>cnd (!decide (c=0)) (some c)<|Lm n a d b ())<|Lm n a d b ()
def Ij (n:Nat)(a:B1)(c:Bool×Bool)(b:Bool):Option (Int):=cnd (b) (some 1)<|jon (Ln n a c)<|reg<|cnd (decide (a.fOp=4)) (Ln n a c true)<|Ln n a c (decide (a.fOp=0))
def E4 (n:Nat)(a:B1)(c:Bool×Bool)(b:Bool):Option (Int):=cnd (b) (some 2)<|jon (Ij n a c)<|reg<|cnd (decide (a.fOp=4)) (cnd (decide (a.fKind<1)) (Ij n a c true)<|Ij n a c (decide (5<a.fKind)))<|Ij n a c false
def Uy (n:Nat)(a:B1):Option (Int):=bnd (Uq n a.fOp) fun c=>cnd (decide (c<0)) (some 1)<|cnd (!decide (((a.fArgs.map idA).length:Int)=c)) (some 15)<|bnd (Rr n a.fOp) fun b=>jon (E4 n a b)<|reg<|cnd (b.1) (cnd (decide (a.fVar<0)) (E4 n a b true)<|cnd (decide (16<=a.fVar)) (E4 n a b true)<|cnd (b.2) (cnd (decide (a.fField<0)) (E4 n a b true)<|E4 n a b (decide (8<=a.fField)))<|E4 n a b false)<|cnd (b.2) (cnd (decide (a.fField<0)) (E4 n a b true)<|E4 n a b (decide (8<=a.fField)))<|E4 n a b false
def Q3 (n:Nat)(b:B1->Option (Int))(a:B1)(c:Option (Int)):Nat->Int->Option (Int) |0,_=>none |e+1,d=>cnd (decide (d<((a.fArgs.map idA).length:Int))) (idxD C3 a.fArgs d fun g=>bnd (b g) fun f=>cnd (!decide (f=0)) (some f)<|(Q3 n b a c e) (aA .i64 (d+1)))<|c
def H9:Nat->B1->Option (Int) |0,_=>none |n+1,b=>bnd (Uy n b) fun a=>cnd (!decide (a=0)) (some a)<|Q3 n (H9 n) b (some 0) n 0
def G1 (n:Nat)(a:B1):Option (Int):=bnd (Fz n a 64) fun d=>cnd (decide (64<d)) (some 5)<|bnd (Fy n a) fun c=>cnd (decide (12<c)) (some 12)<|bnd (H9 n a) fun b=>some b
structure Bg where
 fScope:Int
 fType:Int
 fVar:Int
 fCond:B1
deriving Inhabited
def Be (x:Bg):AV:=.agg [aI (x.fScope),aI (x.fType),aI (x.fVar),aI (x.fCond.fOp),.sl 8 (x.fCond.fArgs.map idA),aI (x.fCond.fVar),aI (x.fCond.fField),aI (x.fCond.fKind),aI (x.fCond.fValue.fKind),aI (x.fCond.fValue.fNum),.str (x.fCond.fValue.fText)]
abbrev Wr (x:Bg):List AV:=[aI (x.fScope),aI (x.fType),aI (x.fVar),aI (x.fCond.fOp),.sl 8 (x.fCond.fArgs.map idA),aI (x.fCond.fVar),aI (x.fCond.fField),aI (x.fCond.fKind),aI (x.fCond.fValue.fKind),aI (x.fCond.fValue.fNum),.str (x.fCond.fValue.fText)]
structure G7 where
 fGuards:(List Bg)
deriving Inhabited
def Bb (x:G7):AV:=.agg [.sl 11 (x.fGuards.map Be)]
structure C4 where
 fScope:Int
 fSpan:Int
deriving DecidableEq,Inhabited
def Ce (x:C4):AV:=.agg [aI (x.fScope),aI (x.fSpan)]
abbrev Ze (x:C4):List AV:=[aI (x.fScope),aI (x.fSpan)]
structure B5 where
 fFrom:Int
 fTo:Int
 fVar:Int
 fType:Int
 fCond:B1
 fOpens:(List Int)
 fCloses:(List Int)
 fChecks:(List AV)
 fLimits:(List C4)
 fInside:(List Int)
deriving Inhabited
def B7 (x:B5):AV:=.agg [aI (x.fFrom),aI (x.fTo),aI (x.fVar),aI (x.fType),aI (x.fCond.fOp),.sl 8 (x.fCond.fArgs.map idA),aI (x.fCond.fVar),aI (x.fCond.fField),aI (x.fCond.fKind),aI (x.fCond.fValue.fKind),aI (x.fCond.fValue.fNum),.str (x.fCond.fValue.fText),.sl 1 (x.fOpens.map aI),.sl 1 (x.fCloses.map aI),.sl 8 (x.fChecks.map idA),.sl 2 (x.fLimits.map Ce),.sl 1 (x.fInside.map aI)]
abbrev C7 (x:B5):List AV:=[aI (x.fFrom),aI (x.fTo),aI (x.fVar),aI (x.fType),aI (x.fCond.fOp),.sl 8 (x.fCond.fArgs.map idA),aI (x.fCond.fVar),aI (x.fCond.fField),aI (x.fCond.fKind),aI (x.fCond.fValue.fKind),aI (x.fCond.fValue.fNum),.str (x.fCond.fValue.fText),.sl 1 (x.fOpens.map aI),.sl 1 (x.fCloses.map aI),.sl 8 (x.fChecks.map idA),.sl 2 (x.fLimits.map Ce),.sl 1 (x.fInside.map aI)]
structure Ai where
 fVars:Int
 fScopes:Int
 fStates:(List G7)
 fEdges:(List B5)
deriving Inhabited
def Bj (x:Ai):AV:=.agg [aI (x.fVars),aI (x.fScopes),.sl 1 (x.fStates.map Bb),.sl 17 (x.fEdges.map B7)]
abbrev B4 (x:Ai):List AV:=[aI (x.fVars),aI (x.fScopes),.sl 1 (x.fStates.map Bb),.sl 17 (x.fEdges.map B7)]
def M1 (n:Nat)(b:Bool):Option (Bool):=some b
def D3 (n:Nat)(a:Int)(b:Int):Option (Bool):=jon (M1 n)<|reg<|cnd (decide (a<0)) (M1 n true)<|M1 n (decide (b<a))
def Pg (n:Nat)(a:(List Bg))(h:Ai)(c:Int)(b:Option (Int)):Nat->Int->Option (Int) |0,_=>none |e+1,d=>cnd (decide (d<c)) (idx a d fun f=>idx a c fun g=>cnd (decide (f.fScope=g.fScope)) (some 7)<|(Pg n a h c b e) (aA .i64 (d+1)))<|b
def Ia (n:Nat)(a:(List Bg))(g:Ai)(b:Int)(c:Int->Option (Int))(e:Bool):Option (Int):=cnd (e) (some 2)<|Pg n a g b (idx a b fun f=>bnd (G1 n f.fCond) fun d=>cnd (!decide (d=0)) (some d)<|c (aA .i64 (b+1))) n 0
def Fo (n:Nat)(a:(List Bg))(i:Ai)(b:Option (Int)):Nat->Int->Option (Int) |0,_=>none |d+1,c=>cnd (decide (c<((a.map Be).length:Int))) (jon (Ia n a i c (Fo n a i b d))<|reg<|idx a c fun e=>bnd (D3 n e.fScope (aA .i64 (i.fScopes-1))) fun f=>cnd (f) (Ia n a i c (Fo n a i b d) true)<|idx a c fun g=>bnd (D3 n g.fType 15) fun h=>cnd (h) (Ia n a i c (Fo n a i b d) true)<|idx a c fun j=>bnd (D3 n j.fVar (aA .i64 (i.fVars-1))) fun k=>Ia n a i c (Fo n a i b d) k)<|b
def Uh (n:Nat)(b:Ai)(a:(List Bg)):Option (Int):=cnd (decide (64<((a.map Be).length:Int))) (some 5)<|Fo n a b (some 0) n 0
def Pf (n:Nat)(h:Int)(a:(List Int))(c:Int)(b:Option (Int)):Nat->Int->Option (Int) |0,_=>none |e+1,d=>cnd (decide (d<c)) (idx a d fun f=>idx a c fun g=>cnd (decide (f=g)) (some 7)<|(Pf n h a c b e) (aA .i64 (d+1)))<|b
def Ku (n:Nat)(g:Int)(a:(List Int))(c:Option (Int)):Nat->Int->Option (Int) |0,_=>none |d+1,b=>cnd (decide (b<((a.map aI).length:Int))) (idx a b fun e=>bnd (D3 n e (aA .i64 (g-1))) fun f=>cnd (f) (some 2)<|Pf n g a b ((Ku n g a c d) (aA .i64 (b+1))) n 0)<|c
def R2 (n:Nat)(b:(List Int))(a:Int):Option (Int):=Ku n a b (some 0) n 0
def L3 (n:Nat)(a:B5)(b:Option (Int)):Nat->Int->Option (Int) |0,_=>none |d+1,c=>cnd (decide (c<((a.fLimits.map Ce).length:Int))) (idx a.fLimits c fun e=>bnd (D3 n e.fSpan 1099511627776) fun f=>cnd (f) (some 2)<|(L3 n a b d) (aA .i64 (c+1)))<|b
def Gn (n:Nat)(a:B5)(h:Ai)(b:(List Int))(c:Option (Int)):Nat->Int->Option (Int) |0,_=>none |f+1,d=>cnd (decide (d<4)) (idx ([a.fOpens,a.fCloses,a.fInside,b]:List (List Int)) d fun g=>bnd (R2 n g h.fScopes) fun e=>cnd (!decide (e=0)) (some e)<|(Gn n a h b c f) (aA .i64 (d+1)))<|c
def Pz (n:Nat)(a:B5)(g:Ai)(c:(List Int)->Option (Int)):Nat->Int×(List Int)->Option (Int) |0,_=>none |d+1,b=>cnd (decide (b.1<((a.fLimits.map Ce).length:Int))) (idx a.fLimits b.1 fun e=>app b.2 [e.fScope] 8 fun f=>(Pz n a g c d) ((aA .i64 (b.1+1)),f))<|c b.2
def Re (n:Nat)(c:Ai)(a:B5):Option (Int):=Pz n a c (fun b=>frz 7026<|reg<|Gn n a c b (L3 n a (some 0) n 0) n 0) n (0,[])
def Qo (n:Nat)(a:B5)(g:Ai)(b:Option (Int)):Nat->Int->Option (Int) |0,_=>none |d+1,c=>cnd (decide (c<((a.fChecks.map idA).length:Int))) (idxD C3 a.fChecks c fun f=>bnd (G1 n f) fun e=>cnd (!decide (e=0)) (some e)<|(Qo n a g b d) (aA .i64 (c+1)))<|b
def Ds (n:Nat)(f:Int)(a:B5)(e:Ai)(b:Bool):Option (Int):=cnd (b) (some 2)<|cnd (decide (a.fFrom<f)) (some 14)<|bnd (G1 n a.fCond) fun d=>cnd (!decide (d=0)) (some d)<|cnd (decide (64<((a.fChecks.map idA).length:Int))) (some 5)<|Qo n a e (bnd (Re n e a) fun c=>some c) n 0
def Ux (n:Nat)(h:Ai)(a:B5)(i:Int):Option (Int):=jon (Ds n i a h)<|reg<|bnd (D3 n a.fFrom (aA .i64 (((h.fStates.map Bb).length:Int)-1))) fun b=>cnd (b) (Ds n i a h true)<|cnd (!decide (a.fTo=(-1))) (bnd (D3 n a.fTo (aA .i64 (((h.fStates.map Bb).length:Int)-1))) fun c=>cnd (c) (Ds n i a h true)<|bnd (D3 n a.fVar (aA .i64 (h.fVars-1))) fun d=>cnd (d) (Ds n i a h true)<|bnd (D3 n a.fType 15) fun e=>Ds n i a h e)<|bnd (D3 n a.fVar (aA .i64 (h.fVars-1))) fun f=>cnd (f) (Ds n i a h true)<|bnd (D3 n a.fType 15) fun g=>Ds n i a h g
def Q0 (n:Nat)(a:Ai)(c:Option (Int)):Nat->Int×Int->Option (Int) |0,_=>none |d+1,b=>cnd (decide (b.2<((a.fEdges.map B7).length:Int))) (idx a.fEdges b.2 fun f=>bnd (Ux n a f b.1) fun e=>cnd (!decide (e=0)) (some e)<|idx a.fEdges b.2 fun g=>(Q0 n a c d) (g.fFrom,(aA .i64 (b.2+1))))<|c
def Q1 (n:Nat)(a:Ai)(b:Option (Int)):Nat->Int->Option (Int) |0,_=>none |d+1,c=>cnd (decide (c<((a.fStates.map Bb).length:Int))) (idx a.fStates c fun f=>bnd (Uh n a f.fGuards) fun e=>cnd (!decide (e=0)) (some e)<|(Q1 n a b d) (aA .i64 (c+1)))<|b
def Fq (n:Nat)(a:Ai)(b:Bool):Option (Int):=cnd (b) (some 5)<|Q1 n a (Q0 n a (some 0) n (0,0)) n 0
def Gp (n:Nat)(a:Ai)(b:Bool):Option (Int):=cnd (b) (some 2)<|jon (Fq n a)<|reg<|cnd (decide (((a.fStates.map Bb).length:Int)<1)) (Fq n a true)<|cnd (decide (256<((a.fStates.map Bb).length:Int))) (Fq n a true)<|Fq n a (decide (2048<((a.fEdges.map B7).length:Int)))
def J3 (n:Nat)(a:Ai):Option (Int):=jon (Gp n a)<|reg<|bnd (D3 n a.fVars 16) fun b=>cnd (b) (Gp n a true)<|bnd (D3 n a.fScopes 64) fun c=>Gp n a c
def Sv (n:Nat)(b:B1->Option (Int×Int))(a:B1)(d:Int->Int->Option (Int×Int)):Nat->Int×Int×Int->Option (Int×Int) |0,_=>none |e+1,c=>cnd (decide (c.2.2<((a.fArgs.map idA).length:Int))) (idxD C3 a.fArgs c.2.2 fun g=>bnd (b g) fun f=>(Sv n b a d e) ((aA .i64 (c.1+f.1)),(max c.2.1 f.2),(aA .i64 (c.2.2+1))))<|d c.1 c.2.1
def Hm:Nat->B1->Option (Int×Int) |0,_=>none |n+1,a=>Sv n (Hm n) a (fun b c=>some (b,(aA .i64 (c+1)))) n (1,0,0)
def Nc (n:Nat)(a:Int)(b:Bool):Option (Int×Bool):=cnd (b) (some (0,false))<|cnd (decide (a<5)) (some (0,true))<|cnd (decide (a=12)) (some (1,true))<|some (2,true)
def Wp (n:Nat)(a:Int):Option (Int×Bool):=jon (Nc n a)<|reg<|cnd (decide (a<0)) (Nc n a true)<|Nc n a (decide (12<a))
def Ng (n:Nat)(b:Bool):Option (Bool×Bool):=cnd (b) (some (true,false))<|some (false,false)
def Nh (n:Nat)(a:Int)(b:Bool):Option (Bool×Bool):=cnd (b) (some (true,true))<|jon (Ng n)<|reg<|cnd (decide (a=2)) (Ng n (decide (a=2)))<|Ng n (decide (a=3))
def T0 (n:Nat)(a:Int):Option (Bool×Bool):=jon (Nh n a)<|reg<|cnd (decide (a=1)) (Nh n a (decide (a=1)))<|Nh n a (decide (a=4))
def Nk (n:Nat)(a:Ab):Option (Int):=cnd (decide (a.fKind=0)) (cnd (decide (a.fNum<(-1099511627776))) (some 2)<|cnd (decide (1099511627776<a.fNum)) (some 2)<|cnd (decide (a.fKind=1)) (cnd (!decide (a.fNum=0)) (cnd (!decide (a.fNum=1)) (some 2)<|cnd (decide (64<((a.fText.size:Nat):Int))) (some 13)<|some 0)<|cnd (decide (64<((a.fText.size:Nat):Int))) (some 13)<|some 0)<|cnd (decide (64<((a.fText.size:Nat):Int))) (some 13)<|some 0)<|cnd (decide (a.fKind=1)) (cnd (!decide (a.fNum=0)) (cnd (!decide (a.fNum=1)) (some 2)<|cnd (decide (64<((a.fText.size:Nat):Int))) (some 13)<|some 0)<|cnd (decide (64<((a.fText.size:Nat):Int))) (some 13)<|some 0)<|cnd (decide (64<((a.fText.size:Nat):Int))) (some 13)<|some 0
def Hj (n:Nat)(a:Ab):Option (Int):=cnd (decide (a.fKind=0)) (cnd (decide (a.fKind=0)) (cnd (!(a.fText.toList == ByteArray.empty.toList)) (some 3)<|bnd (Nk n a) fun e=>some e)<|cnd (decide (a.fKind=2)) (cnd (!decide (a.fNum=0)) (some 3)<|bnd (Nk n a) fun d=>some d)<|some 1)<|cnd (decide (a.fKind=1)) (cnd (!(a.fText.toList == ByteArray.empty.toList)) (some 3)<|bnd (Nk n a) fun c=>some c)<|cnd (decide (a.fKind=2)) (cnd (!decide (a.fNum=0)) (some 3)<|bnd (Nk n a) fun b=>some b)<|some 1
def Jj (n:Nat)(b:Bool):Option (Bool):=some b
def Wo (n:Nat)(a:Int)(b:Ab):Option (Bool):=jon (Jj n)<|reg<|cnd (decide (b.fKind=0)) (Jj n true)<|cnd (decide (a=4)) (Jj n true)<|Jj n (decide (a=5))
def Hg (n:Nat)(b:Bool):Option (Int):=cnd (b) (some 9)<|some 0
def W6 (n:Nat)(a:B1):Option (Int):=bnd (Hj n a.fValue) fun b=>cnd (!decide (b=0)) (some b)<|jon (Hg n)<|reg<|cnd (decide (a.fOp=4)) (bnd (Wo n a.fKind a.fValue) fun c=>cnd (!(c)) (Hg n true)<|cnd (decide (a.fKind=1)) (Hg n (!(decide (a.fValue.fKind=0) && (decide (a.fValue.fNum=0) && ((a.fValue.fText.toList == ByteArray.empty.toList) && true)))))<|Hg n false)<|Hg n false
def Cb (n:Nat)(b:Bool):Option (Int):=cnd (b) (some 3)<|some 0
def Ni (n:Nat)(a:B1)(c:Bool×Bool)(b:Bool)(_:Unit):Option (Int):=jon (Cb n)<|reg<|cnd (!(c.1)) (cnd (!decide (a.fVar=0)) (Cb n true)<|cnd (!(c.2)) (cnd (!decide (a.fField=0)) (Cb n true)<|cnd (!(decide (a.fOp=4))) (cnd (!decide (a.fKind=0)) (Cb n true)<|cnd (!(b)) (Cb n (!(decide (a.fValue.fKind=0) && (decide (a.fValue.fNum=0) && ((a.fValue.fText.toList == ByteArray.empty.toList) && true)))))<|Cb n false)<|cnd (!(b)) (Cb n (!(decide (a.fValue.fKind=0) && (decide (a.fValue.fNum=0) && ((a.fValue.fText.toList == ByteArray.empty.toList) && true)))))<|Cb n false)<|cnd (!(decide (a.fOp=4))) (cnd (!decide (a.fKind=0)) (Cb n true)<|cnd (!(b)) (Cb n (!(decide (a.fValue.fKind=0) && (decide (a.fValue.fNum=0) && ((a.fValue.fText.toList == ByteArray.empty.toList) && true)))))<|Cb n false)<|cnd (!(b)) (Cb n (!(decide (a.fValue.fKind=0) && (decide (a.fValue.fNum=0) && ((a.fValue.fText.toList == ByteArray.empty.toList) && true)))))<|Cb n false)<|cnd (!(c.2)) (cnd (!decide (a.fField=0)) (Cb n true)<|cnd (!(decide (a.fOp=4))) (cnd (!decide (a.fKind=0)) (Cb n true)<|cnd (!(b)) (Cb n (!(decide (a.fValue.fKind=0) && (decide (a.fValue.fNum=0) && ((a.fValue.fText.toList == ByteArray.empty.toList) && true)))))<|Cb n false)<|cnd (!(b)) (Cb n (!(decide (a.fValue.fKind=0) && (decide (a.fValue.fNum=0) && ((a.fValue.fText.toList == ByteArray.empty.toList) && true)))))<|Cb n false)<|cnd (!(decide (a.fOp=4))) (cnd (!decide (a.fKind=0)) (Cb n true)<|cnd (!(b)) (Cb n (!(decide (a.fValue.fKind=0) && (decide (a.fValue.fNum=0) && ((a.fValue.fText.toList == ByteArray.empty.toList) && true)))))<|Cb n false)<|cnd (!(b)) (Cb n (!(decide (a.fValue.fKind=0) && (decide (a.fValue.fNum=0) && ((a.fValue.fText.toList == ByteArray.empty.toList) && true)))))<|Cb n false
def Nj (n:Nat)(a:B1)(c:Bool×Bool)(b:Bool):Option (Int):=jon (Ni n a c b)<|reg<|cnd (b) (bnd (W6 n a) fun d=>cnd (!decide (d=0)) (some d)<|Ni n a c b ())<|Ni n a c b ()
def Jk (n:Nat)(a:B1)(c:Bool×Bool)(b:Bool):Option (Int):=cnd (b) (some 1)<|jon (Nj n a c)<|reg<|cnd (decide (a.fOp=4)) (Nj n a c true)<|Nj n a c (decide (a.fOp=0))
def E9 (n:Nat)(a:B1)(c:Bool×Bool)(b:Bool):Option (Int):=cnd (b) (some 2)<|jon (Jk n a c)<|reg<|cnd (decide (a.fOp=4)) (cnd (decide (a.fKind<1)) (Jk n a c true)<|Jk n a c (decide (5<a.fKind)))<|Jk n a c false
def Ws (n:Nat)(a:B1):Option (Int):=bnd (Wp n a.fOp) fun c=>cnd (!(c.2)) (some 1)<|cnd (!decide (((a.fArgs.map idA).length:Int)=c.1)) (some 15)<|bnd (T0 n a.fOp) fun b=>jon (E9 n a b)<|reg<|cnd (b.1) (cnd (decide (a.fVar<0)) (E9 n a b true)<|cnd (decide (16<=a.fVar)) (E9 n a b true)<|cnd (b.2) (cnd (decide (a.fField<0)) (E9 n a b true)<|E9 n a b (decide (8<=a.fField)))<|E9 n a b false)<|cnd (b.2) (cnd (decide (a.fField<0)) (E9 n a b true)<|E9 n a b (decide (8<=a.fField)))<|E9 n a b false
def So (n:Nat)(b:B1->Option (Int))(a:B1)(c:Option (Int)):Nat->Int->Option (Int) |0,_=>none |e+1,d=>cnd (decide (d<((a.fArgs.map idA).length:Int))) (idxD C3 a.fArgs d fun g=>bnd (b g) fun f=>cnd (!decide (f=0)) (some f)<|(So n b a c e) (aA .i64 (d+1)))<|c
def Hk:Nat->B1->Option (Int) |0,_=>none |n+1,b=>bnd (Ws n b) fun a=>cnd (!decide (a=0)) (some a)<|So n (Hk n) b (some 0) n 0
def Hl (n:Nat)(b:B1):Option (Int):=bnd (Hm n b) fun a=>cnd (decide (64<a.1)) (some 5)<|cnd (decide (12<a.2)) (some 12)<|bnd (Hk n b) fun c=>some c
def Mj (n:Nat)(b:Bool):Option (Bool):=some b
def F8 (n:Nat)(a:Int)(b:Int):Option (Bool):=jon (Mj n)<|reg<|cnd (decide (0<=a)) (Mj n (decide (a<b)))<|Mj n false
def Rx (n:Nat)(b:Bg)(a:Bg):Option (Bool):=some (decide (b.fScope=a.fScope))
def Rl (n:Nat)(d:Bg)(a:(List Bg))(c:Option (Int)):Nat->Int->Option (Int) |0,_=>none |e+1,b=>cnd (decide (b<((a.map Be).length:Int))) (idx a b fun f=>bnd (Rx n f d) fun g=>cnd (g) (some b)<|(Rl n d a c e) (aA .i64 (b+1)))<|c
def Vq (n:Nat)(a:(List Bg))(b:Bg):Option (Int):=Rl n b a (some (-1)) n 0
def Rn (n:Nat)(c:(List Bg))(b:Bg):Option (Bool):=bnd (Vq n c b) fun a=>some (decide (0<=a))
def J6 (n:Nat)(a:(List Bg))(i:Ai)(b:Int)(c:Int->Option (Int))(d:Bg)(f:Bool):Option (Int):=cnd (f) (some 2)<|sls a 0 b fun g=>bnd (Rn n g d) fun h=>cnd (h) (some 7)<|bnd (Hl n d.fCond) fun e=>cnd (!decide (e=0)) (some e)<|c (aA .i64 (b+1))
def G2 (n:Nat)(a:(List Bg))(i:Ai)(b:Option (Int)):Nat->Int->Option (Int) |0,_=>none |d+1,c=>cnd (decide (c<((a.map Be).length:Int))) (idx a c fun e=>jon (J6 n a i c (G2 n a i b d) e)<|reg<|bnd (F8 n e.fScope i.fScopes) fun f=>cnd (!(f)) (J6 n a i c (G2 n a i b d) e true)<|bnd (F8 n e.fType 16) fun g=>cnd (!(g)) (J6 n a i c (G2 n a i b d) e true)<|bnd (F8 n e.fVar i.fVars) fun h=>J6 n a i c (G2 n a i b d) e !(h))<|b
def Vu (n:Nat)(b:Ai)(a:(List Bg)):Option (Int):=cnd (decide (64<((a.map Be).length:Int))) (some 5)<|G2 n a b (some 0) n 0
def Rb (n:Nat)(a:(List C4))(c:(List Int)->Option ((List Int))):Nat->Int×(List Int)->Option ((List Int)) |0,_=>none |d+1,b=>cnd (decide (b.1<((a.map Ce).length:Int))) (idx a b.1 fun e=>app b.2 [e.fScope] 8 fun f=>(Rb n a c d) ((aA .i64 (b.1+1)),f))<|c b.2
def S3 (n:Nat)(a:(List C4)):Option ((List Int)):=Rb n a (fun b=>some b) n (0,[])
def S9 (n:Nat)(f:Int)(a:(List Int))(c:Option (Int)):Nat->Int->Option (Int) |0,_=>none |d+1,b=>cnd (decide (b<((a.map aI).length:Int))) (idx a b fun e=>cnd (decide (f=e)) (some b)<|(S9 n f a c d) (aA .i64 (b+1)))<|c
def Z6 (n:Nat)(b:(List Int))(a:Int):Option (Int):=S9 n a b (some (-1)) n 0
def Hi (n:Nat)(c:(List Int))(b:Int):Option (Bool):=bnd (Z6 n c b) fun a=>some (decide (0<=a))
def Hc (n:Nat)(i:(List (List Int)))(a:Ai)(g:Int)(d:(List Int))(c:Option (Int)):Nat->Int->Option (Int) |0,_=>none |e+1,b=>cnd (decide (b<((d.map aI).length:Int))) (idx d b fun f=>bnd (F8 n f a.fScopes) fun h=>cnd (!(h)) (some 2)<|sls d 0 b fun j=>bnd (Hi n j f) fun k=>cnd (k) (some 7)<|(Hc n i a g d c e) (aA .i64 (b+1)))<|c
def J5 (n:Nat)(a:(List (List Int)))(f:Ai)(c:Option (Int)):Nat->Int->Option (Int) |0,_=>none |d+1,b=>cnd (decide (b<(((List.map (fun q=>AV.sl 1 (List.map aI q)) (a)).length:Nat):Int))) (idx a b fun e=>Hc n a f b e ((J5 n a f c d) (aA .i64 (b+1))) n 0)<|c
def Vt (n:Nat)(b:Ai)(a:(List (List Int))):Option (Int):=J5 n a b (some 0) n 0
def Ml (n:Nat)(b:Bool):Option (Bool):=some b
def Mz (n:Nat)(a:C4):Option (Bool):=jon (Ml n)<|reg<|cnd (decide (a.fSpan<0)) (Ml n true)<|Ml n (decide (1099511627776<a.fSpan))
def Pn (n:Nat)(a:(List C4))(c:Option (Int)):Nat->Int->Option (Int) |0,_=>none |d+1,b=>cnd (decide (b<((a.map Ce).length:Int))) (idx a b fun e=>bnd (Mz n e) fun f=>cnd (f) (some b)<|(Pn n a c d) (aA .i64 (b+1)))<|c
def Ul (n:Nat)(a:(List C4)):Option (Int):=Pn n a (some (-1)) n 0
def Po (n:Nat)(b:(List C4)):Option (Bool):=bnd (Ul n b) fun a=>some (decide (0<=a))
def S4 (n:Nat)(a:B5)(g:Ai)(b:Option (Int)):Nat->Int->Option (Int) |0,_=>none |d+1,c=>cnd (decide (c<((a.fChecks.map idA).length:Int))) (idxD C3 a.fChecks c fun f=>bnd (Hl n f) fun e=>cnd (!decide (e=0)) (some e)<|(S4 n a g b d) (aA .i64 (c+1)))<|b
def E7 (n:Nat)(h:Int)(a:B5)(g:Ai)(c:Bool):Option (Int):=cnd (c) (some 2)<|cnd (decide (a.fFrom<h)) (some 14)<|bnd (Hl n a.fCond) fun f=>cnd (!decide (f=0)) (some f)<|cnd (decide (64<((a.fChecks.map idA).length:Int))) (some 5)<|S4 n a g (bnd (S3 n a.fLimits) fun d=>bnd (Vt n g ([a.fOpens,a.fCloses,a.fInside,d])) fun b=>cnd (!decide (b=0)) (some b)<|bnd (Po n a.fLimits) fun e=>cnd (e) (some 2)<|some 0) n 0
def W7 (n:Nat)(e:Ai)(a:B5)(f:Int):Option (Int):=jon (E7 n f a e)<|reg<|bnd (F8 n a.fFrom ((e.fStates.map Bb).length:Int)) fun b=>cnd (!(b)) (E7 n f a e true)<|cnd (decide (a.fTo<(-1))) (E7 n f a e true)<|cnd (decide (((e.fStates.map Bb).length:Int)<=a.fTo)) (E7 n f a e true)<|bnd (F8 n a.fVar e.fVars) fun c=>cnd (!(c)) (E7 n f a e true)<|bnd (F8 n a.fType 16) fun d=>E7 n f a e !(d)
def Ry (n:Nat)(a:Ai)(c:Option (Int)):Nat->Int×Int->Option (Int) |0,_=>none |d+1,b=>cnd (decide (b.2<((a.fEdges.map B7).length:Int))) (idx a.fEdges b.2 fun e=>bnd (W7 n a e b.1) fun f=>cnd (!decide (f=0)) (some f)<|(Ry n a c d) (e.fFrom,(aA .i64 (b.2+1))))<|c
def Rz (n:Nat)(a:Ai)(b:Option (Int)):Nat->Int->Option (Int) |0,_=>none |d+1,c=>cnd (decide (c<((a.fStates.map Bb).length:Int))) (idx a.fStates c fun f=>bnd (Vu n a f.fGuards) fun e=>cnd (!decide (e=0)) (some e)<|(Rz n a b d) (aA .i64 (c+1)))<|b
def G3 (n:Nat)(a:Ai)(b:Bool):Option (Int):=cnd (b) (some 5)<|Rz n a (Ry n a (some 0) n (0,0)) n 0
def F6 (n:Nat)(a:Ai)(b:Bool):Option (Int):=cnd (b) (some 2)<|jon (G3 n a)<|reg<|cnd (decide (((a.fStates.map Bb).length:Int)<1)) (G3 n a true)<|cnd (decide (256<((a.fStates.map Bb).length:Int))) (G3 n a true)<|G3 n a (decide (2048<((a.fEdges.map B7).length:Int)))
def N5 (n:Nat)(a:Ai):Option (Int):=jon (F6 n a)<|reg<|cnd (decide (a.fVars<0)) (F6 n a true)<|cnd (decide (16<a.fVars)) (F6 n a true)<|cnd (decide (a.fScopes<0)) (F6 n a true)<|F6 n a (decide (64<a.fScopes))
def Ik (n:Nat)(b:Bool):Option (Bool):=some b
def Rt (n:Nat)(a:Int):Option (Bool):=jon (Ik n)<|reg<|cnd (decide (0<=a)) (Ik n (decide (a<=5)))<|Ik n false
structure C2 where
 fKind:Int
 fCount:Int
 fValue:Ab
deriving DecidableEq,Inhabited
def E8 (x:C2):AV:=.agg [aI (x.fKind),aI (x.fCount),aI (x.fValue.fKind),aI (x.fValue.fNum),.str (x.fValue.fText)]
abbrev Vw (x:C2):List AV:=[aI (x.fKind),aI (x.fCount),aI (x.fValue.fKind),aI (x.fValue.fNum),.str (x.fValue.fText)]
def Gr (n:Nat)(b:Bool):Option (Int):=cnd (b) (some 3)<|some 0
def L8 (n:Nat)(b:Bool):Option (Int):=cnd (b) (some 3)<|some 0
def L9 (n:Nat)(a:C2)(b:Bool):Option (Int):=cnd (b) (cnd (!(decide (a.fValue.fKind=0) && (decide (a.fValue.fNum=0) && ((a.fValue.fText.toList == ByteArray.empty.toList) && true)))) (some 3)<|some 0)<|cnd (decide (a.fKind=1)) (jon (Gr n)<|reg<|cnd (!decide (a.fValue.fKind=0)) (Gr n true)<|cnd (!(a.fValue.fText.toList == ByteArray.empty.toList)) (Gr n true)<|cnd (decide (a.fValue.fNum<(aA .i64 (0-(aA .i64 (a.fCount*1099511627776)))))) (Gr n true)<|Gr n (decide ((aA .i64 (a.fCount*1099511627776))<a.fValue.fNum)))<|jon (L8 n)<|reg<|bnd (Ha n a.fValue) fun d=>cnd (!decide (d=0)) (L8 n true)<|bnd (Mg n a.fKind a.fValue) fun c=>L8 n !(c)
def La (n:Nat)(a:C2)(b:Bool):Option (Int):=cnd (b) (some 2)<|jon (L9 n a)<|reg<|cnd (decide (a.fCount=0)) (L9 n a true)<|L9 n a (decide (a.fKind=0))
def Ri (n:Nat)(a:C2):Option (Int):=bnd (Rt n a.fKind) fun b=>cnd (!(b)) (some 1)<|jon (La n a)<|reg<|cnd (decide (a.fCount<0)) (La n a true)<|La n a (decide (4096<a.fCount))
def Rg (n:Nat)(d:Int)(b:Ab):Option (Int):=bnd (Ha n b) fun a=>cnd (!decide (a=0)) (some a)<|bnd (Mg n d b) fun c=>cnd (!(c)) (some 9)<|some 0
def U9 (n:Nat)(a:Int)(c:Ab)(b:Ab):Option (Ab):=cnd (decide (a=1)) (some (⟨0,(aA .i64 (c.fNum+b.fNum)),ByteArray.empty⟩))<|cnd (decide (a=2)) (some (⟨0,(min c.fNum b.fNum),ByteArray.empty⟩))<|cnd (decide (a=3)) (some (⟨0,(max c.fNum b.fNum),ByteArray.empty⟩))<|cnd (decide (a=4)) (some c)<|cnd (decide (a=5)) (some b)<|some (⟨0,0,ByteArray.empty⟩)
def Iz (n:Nat)(a:C2)(b:Int×Int×ByteArray):Option (C2×Int):=some (⟨a.fKind,(aA .i64 (a.fCount+1)),⟨b.1,b.2.1,b.2.2⟩⟩,0)
def Vb (n:Nat)(a:C2)(b:Ab):Option (C2×Int):=bnd (Ri n a) fun e=>cnd (!decide (e=0)) (some (⟨0,0,⟨0,0,ByteArray.empty⟩⟩,e))<|bnd (Rg n a.fKind b) fun d=>cnd (!decide (d=0)) (some (⟨0,0,⟨0,0,ByteArray.empty⟩⟩,d))<|cnd (decide (a.fCount=4096)) (some (⟨0,0,⟨0,0,ByteArray.empty⟩⟩,5))<|jon (Iz n a)<|reg<|cnd (decide (a.fKind=0)) (Iz n a (0,0,ByteArray.empty))<|reg<|cnd (decide (0<a.fCount)) (bnd (U9 n a.fKind a.fValue b) fun c=>Iz n a (c.fKind,c.fNum,c.fText))<|Iz n a (b.fKind,b.fNum,b.fText)
def Kw (n:Nat)(a:Ab)(c:C2)(b:Bool):Option (Ab×Int):=cnd (b) (some (a,0))<|some (c.fValue,0)
def R5 (n:Nat)(a:C2)(b:Ab):Option (Ab×Int):=bnd (Ri n a) fun d=>cnd (!decide (d=0)) (some (⟨0,0,ByteArray.empty⟩,d))<|bnd (Rg n a.fKind b) fun c=>cnd (!decide (c=0)) (some (⟨0,0,ByteArray.empty⟩,c))<|cnd (decide (a.fKind=0)) (some (⟨0,a.fCount,ByteArray.empty⟩,0))<|jon (Kw n b a)<|reg<|cnd (decide (a.fCount=0)) (Kw n b a (!decide (a.fKind=1)))<|Kw n b a false
def Rh (n:Nat)(g:Ab)(a:(List Ab))(d:Int->Int->Int->Int->ByteArray->Option (Ab×Int)):Nat->Int×Int×Int×Int×Int×ByteArray->Option (Ab×Int) |0,_=>none |e+1,b=>cnd (decide (b.1<((a.map Ag).length:Int))) (idx a b.1 fun f=>bnd (Vb n (⟨b.2.1,b.2.2.1,⟨b.2.2.2.1,b.2.2.2.2.1,b.2.2.2.2.2⟩⟩:C2) f) fun c=>cnd (!decide (c.2=0)) (some (⟨0,0,ByteArray.empty⟩,c.2))<|(Rh n g a d e) ((aA .i64 (b.1+1)),c.1.fKind,c.1.fCount,c.1.fValue.fKind,c.1.fValue.fNum,c.1.fValue.fText))<|d b.2.1 b.2.2.1 b.2.2.2.1 b.2.2.2.2.1 b.2.2.2.2.2
def S6 (n:Nat)(i:Int)(h:(List Ab))(a:Ab):Option (Ab×Int):=bnd (Rt n i) fun j=>cnd (!(j)) (some (⟨0,0,ByteArray.empty⟩,1))<|cnd (decide (4096<((h.map Ag).length:Int))) (some (⟨0,0,ByteArray.empty⟩,5))<|Rh n a h (fun b c d e f=>bnd (R5 n (⟨b,c,⟨d,e,f⟩⟩:C2) a) fun g=>some (g.1,g.2)) n (0,i,0,0,0,ByteArray.empty)
structure A8 where
 fSource:Int
 fSeq:Int
 fType:Int
 fTime:Int
 fValues:(List Ab)
deriving DecidableEq,Inhabited
def A6 (x:A8):AV:=.agg [aI (x.fSource),aI (x.fSeq),aI (x.fType),aI (x.fTime),.sl 3 (x.fValues.map Ag)]
abbrev Bx (x:A8):List AV:=[aI (x.fSource),aI (x.fSeq),aI (x.fType),aI (x.fTime),.sl 3 (x.fValues.map Ag)]
structure Aq where
 fVars:(List (List A8))
deriving DecidableEq,Inhabited
def Dk (x:Aq):AV:=.agg [.sl 1 (List.map (fun q=>AV.sl 5 (List.map A6 q)) (x.fVars))]
abbrev Dl (x:Aq):List AV:=[.sl 1 (List.map (fun q=>AV.sl 5 (List.map A6 q)) (x.fVars))]
def Kv (n:Nat)(c:Int)(d:Aq)(b:Bool):Option ((List A8)):=cnd (b) (some [])<|idx d.fVars c fun a=>some a
def M6 (n:Nat)(b:Aq)(a:Int):Option ((List A8)):=jon (Kv n a b)<|reg<|cnd (decide (a<0)) (Kv n a b true)<|Kv n a b (decide ((((List.map (fun q=>AV.sl 5 (List.map A6 q)) (b.fVars)).length:Nat):Int)<=a))
def Yr (n:Nat)(f:Aq)(b:Int)(e:Int)(d:A8):Option (A8×Bool):=cnd (decide (b=e)) (some (d,true))<|bnd (M6 n (⟨f.fVars⟩:Aq) b) fun a=>cnd (decide (((a.map A6).length:Int)=0)) (some (⟨0,0,0,0,[]⟩,false))<|idx a (aA .i64 (((a.map A6).length:Int)-1)) fun c=>some (c,true)
def Qp (n:Nat)(i:B1)(a:(List A8))(c:(List Ab)->Option (Ab×Int)):Nat->Int×(List Ab)->Option (Ab×Int) |0,_=>none |d+1,b=>cnd (decide (b.1<((a.map A6).length:Int))) (idx a b.1 fun e=>cnd (decide (((e.fValues.map Ag).length:Int)<=i.fField)) (some (⟨0,0,ByteArray.empty⟩,6))<|idx a b.1 fun f=>idx f.fValues i.fField fun g=>app b.2 [g] 32 fun h=>(Qp n i a c d) ((aA .i64 (b.1+1)),h))<|c b.2
def Rs (n:Nat)(a:B1)(h:Aq)(l:Int)(k:A8):Option (Ab×Int):=cnd (decide (a.fOp=0)) (some (a.fValue,0))<|cnd (decide (a.fOp=3)) (bnd (M6 n (⟨h.fVars⟩:Aq) a.fVar) fun j=>some (⟨0,((j.map A6).length:Int),ByteArray.empty⟩,0))<|cnd (decide (a.fOp=4)) (bnd (M6 n (⟨h.fVars⟩:Aq) a.fVar) fun i=>Qp n a i (fun c=>bnd (S6 n a.fKind c a.fValue) fun d=>some (d.1,d.2)) n (0,[]))<|bnd (Yr n (⟨h.fVars⟩:Aq) a.fVar l k) fun b=>cnd (!(b.2)) (some (⟨0,0,ByteArray.empty⟩,10))<|cnd (decide (a.fOp=2)) (some (⟨0,b.1.fTime,ByteArray.empty⟩,0))<|cnd (decide (((b.1.fValues.map Ag).length:Int)<=a.fField)) (some (⟨0,0,ByteArray.empty⟩,6))<|idx b.1.fValues a.fField fun f=>bnd (Ha n f) fun e=>cnd (!decide (e=0)) (some (⟨0,0,ByteArray.empty⟩,e))<|idx b.1.fValues a.fField fun g=>some (g,0)
def I0 (n:Nat)(b:Bool):Option (Int):=cnd (b) (some 1)<|some (-1)
def Gg (n:Nat)(a:Int)(b:Bool):Option (Int):=cnd (b) (some 0)<|jon (I0 n)<|reg<|cnd (decide (a=10)) (I0 n (decide (a=10)))<|reg<|cnd (decide (a=11)) (I0 n (decide (a=11)))<|I0 n (decide (a=12))
def U6 (n:Nat)(a:Int):Option (Int):=jon (Gg n a)<|reg<|cnd (decide (a=5)) (Gg n a (decide (a=5)))<|reg<|cnd (decide (a=6)) (Gg n a (decide (a=6)))<|reg<|cnd (decide (a=7)) (Gg n a (decide (a=7)))<|Gg n a (decide (a=8))
def Fl (n:Nat)(a:(List Int))(e:Int)(c:Int)(b:Int->Option (Int))(d:Bool):Option (Int):=cnd (d) (some 9)<|b (aA .i64 (c+1))
def Ez (n:Nat)(a:(List Int))(i:Int)(b:Option (Int)):Nat->Int->Option (Int) |0,_=>none |d+1,c=>cnd (decide (c<((a.map aI).length:Int))) (bnd (U6 n i) fun e=>jon (Fl n a i c (Ez n a i b d))<|reg<|cnd (decide (0<=e)) (idx a c fun f=>cnd (!decide (f=e)) (Fl n a i c (Ez n a i b d) true)<|cnd (decide (i=9)) (idx a c fun g=>idx a 0 fun h=>Fl n a i c (Ez n a i b d) (!decide (g=h)))<|Fl n a i c (Ez n a i b d) false)<|cnd (decide (i=9)) (idx a c fun j=>idx a 0 fun k=>Fl n a i c (Ez n a i b d) (!decide (j=k)))<|Fl n a i c (Ez n a i b d) false)<|b
def Y1 (n:Nat)(b:Int)(a:(List Int)):Option (Int):=Ez n a b (some 0) n 0
def Dt (n:Nat)(a:Bool):Option (Ab):=cnd (a) (some (⟨1,1,ByteArray.empty⟩))<|some (⟨1,0,ByteArray.empty⟩)
def L5 (n:Nat)(b:Int×Int×ByteArray):Option (Ab):=some (⟨b.1,b.2.1,b.2.2⟩)
def L4 (n:Nat)(b:Int×Int×ByteArray):Option (Ab):=some (⟨b.1,b.2.1,b.2.2⟩)
def Mf (n:Nat)(i:Int)(a:(List Ab)):Option (Ab):=cnd (decide (i=5)) (idx a 0 fun z=>idx a 1 fun y=>some (⟨0,(aA .i64 (z.fNum+y.fNum)),ByteArray.empty⟩))<|cnd (decide (i=6)) (idx a 0 fun x=>idx a 1 fun w=>some (⟨0,(aA .i64 (x.fNum-w.fNum)),ByteArray.empty⟩))<|cnd (decide (i=7)) (idx a 0 fun v=>idx a 1 fun u=>bnd (Dt n (decide (v.fNum<u.fNum))) fun t=>some t)<|cnd (decide (i=8)) (idx a 0 fun r=>idx a 1 fun m=>bnd (Dt n (decide (r.fNum<=m.fNum))) fun h=>some h)<|cnd (decide (i=9)) (idx a 0 fun b=>idx a 1 fun c=>bnd (Dt n (decide (b.fKind=c.fKind) && (decide (b.fNum=c.fNum) && ((b.fText.toList == c.fText.toList) && true)))) fun j=>some j)<|cnd (decide (i=10)) (jon (L5 n)<|reg<|idx a 0 fun k=>cnd (decide (k.fNum=1)) (idx a 1 fun l=>bnd (Dt n (decide (l.fNum=1))) fun d=>L5 n (d.fKind,d.fNum,d.fText))<|bnd (Dt n false) fun e=>L5 n (e.fKind,e.fNum,e.fText))<|cnd (decide (i=11)) (jon (L4 n)<|reg<|idx a 0 fun o=>cnd (decide (o.fNum=1)) (bnd (Dt n true) fun f=>L4 n (f.fKind,f.fNum,f.fText))<|idx a 1 fun p=>bnd (Dt n (decide (p.fNum=1))) fun g=>L4 n (g.fKind,g.fNum,g.fText))<|idx a 0 fun q=>bnd (Dt n (!decide (q.fNum=1))) fun s=>some s
def Qq (n:Nat)(b:B1->Aq->Int->A8->Option (Ab×Int))(i:A8)(k:Int)(l:Aq)(a:B1)(d:(List Ab)->(List Int)->Option (Ab×Int)):Nat->Int×(List Ab)×(List Int)->Option (Ab×Int) |0,_=>none |f+1,c=>cnd (decide (c.1<((a.fArgs.map idA).length:Int))) (idxD C3 a.fArgs c.1 fun g=>bnd (b g (⟨l.fVars⟩:Aq) k i) fun e=>cnd (!decide (e.2=0)) (some (⟨0,0,ByteArray.empty⟩,e.2))<|app c.2.1 [e.1] 32 fun h=>app c.2.2 [e.1.fKind] 8 fun j=>(Qq n b i k l a d f) ((aA .i64 (c.1+1)),h,j))<|d c.2.1 c.2.2
def He:Nat->B1->Aq->Int->A8->Option (Ab×Int) |0,_,_,_,_=>none |n+1,a,i,h,g=>cnd (decide (((a.fArgs.map idA).length:Int)=0)) (bnd (Rs n a (⟨i.fVars⟩:Aq) h g) fun f=>some (f.1,f.2))<|Qq n (He n) g h i a (fun b c=>bnd (Y1 n a.fOp c) fun d=>cnd (!decide (d=0)) (some (⟨0,0,ByteArray.empty⟩,d))<|bnd (Mf n a.fOp b) fun e=>some (e,0)) n (0,[],[])
def Ys (n:Nat)(c:B1)(f:Aq)(e:Int)(d:A8):Option (Ab×Int):=bnd (G1 n c) fun b=>cnd (!decide (b=0)) (some (⟨0,0,ByteArray.empty⟩,b))<|bnd (He n c (⟨f.fVars⟩:Aq) e d) fun a=>some (a.1,a.2)
def L6 (n:Nat)(b:Bool):Option (Bool):=some b
def Fx (n:Nat)(f:B1)(e:Aq)(d:Int)(c:A8):Option (Bool):=bnd (Ys n f (⟨e.fVars⟩:Aq) d c) fun a=>jon (L6 n)<|reg<|cnd (decide (a.2=0)) (bnd (Dt n true) fun b=>L6 n (decide (a.1.fKind=b.fKind) && (decide (a.1.fNum=b.fNum) && ((a.1.fText.toList == b.fText.toList) && true))))<|L6 n false
structure Bh where
 fTime:Int
 fSource:Int
 fSeq:Int
deriving DecidableEq,Inhabited
def Bf (x:Bh):AV:=.agg [aI (x.fTime),aI (x.fSource),aI (x.fSeq)]
abbrev zzh (x:Bh):List AV:=[aI (x.fTime),aI (x.fSource),aI (x.fSeq)]
structure B6 where
 fVar:Int
 fRef:Bh
deriving DecidableEq,Inhabited
def Ar (x:B6):AV:=.agg [aI (x.fVar),aI (x.fRef.fTime),aI (x.fRef.fSource),aI (x.fRef.fSeq)]
abbrev zkm (x:B6):List AV:=[aI (x.fVar),aI (x.fRef.fTime),aI (x.fRef.fSource),aI (x.fRef.fSeq)]
structure Ac where
 fBindings:(List B6)
deriving DecidableEq,Inhabited
def Au (x:Ac):AV:=.agg [.sl 4 (x.fBindings.map Ar)]
abbrev G6 (x:Ac):List AV:=[.sl 4 (x.fBindings.map Ar)]
def Mh (n:Nat)(b:Bh)(a:Bh):Option (Int):=cnd (!decide (b.fTime=a.fTime)) (cnd (decide (b.fTime<a.fTime)) (some (-1))<|some 1)<|cnd (!decide (b.fSource=a.fSource)) (cnd (decide (b.fSource<a.fSource)) (some (-1))<|some 1)<|cnd (decide (b.fSeq<a.fSeq)) (some (-1))<|cnd (decide (a.fSeq<b.fSeq)) (some 1)<|some 0
def Up (n:Nat)(b:B6)(a:B6):Option (Int):=bnd (Mh n (⟨b.fRef.fTime,b.fRef.fSource,b.fRef.fSeq⟩:Bh) (⟨a.fRef.fTime,a.fRef.fSource,a.fRef.fSeq⟩:Bh)) fun c=>cnd (!decide (c=0)) (some c)<|cnd (decide (b.fVar<a.fVar)) (some (-1))<|cnd (decide (a.fVar<b.fVar)) (some 1)<|some 0
def Kg (n:Nat)(a:Ac)(i:Ac)(b:Int)(e:Option (Int))(f:Int->Option (Int))(h:Bool):Option (Int):=cnd (h) (idx i.fBindings b fun c=>idx a.fBindings b fun d=>bnd (Up n (⟨c.fVar,⟨c.fRef.fTime,c.fRef.fSource,c.fRef.fSeq⟩⟩:B6) (⟨d.fVar,⟨d.fRef.fTime,d.fRef.fSource,d.fRef.fSeq⟩⟩:B6)) fun g=>cnd (!decide (g=0)) (some g)<|f (aA .i64 (b+1)))<|e
def I4 (n:Nat)(a:Ac)(e:Ac)(b:Option (Int)):Nat->Int->Option (Int) |0,_=>none |d+1,c=>jon (Kg n a e c b (I4 n a e b d))<|reg<|cnd (decide (c<((e.fBindings.map Ar).length:Int))) (Kg n a e c b (I4 n a e b d) (decide (c<((a.fBindings.map Ar).length:Int))))<|Kg n a e c b (I4 n a e b d) false
def Lk (n:Nat)(b:Ac)(a:Ac):Option (Int):=I4 n a b (cnd (decide (((b.fBindings.map Ar).length:Int)<((a.fBindings.map Ar).length:Int))) (some (-1))<|cnd (decide (((a.fBindings.map Ar).length:Int)<((b.fBindings.map Ar).length:Int))) (some 1)<|some 0) n 0
structure Ak where
 fScope:Int
 fTime:Int
deriving DecidableEq,Inhabited
def Ae (x:Ak):AV:=.agg [aI (x.fScope),aI (x.fTime)]
abbrev zau (x:Ak):List AV:=[aI (x.fScope),aI (x.fTime)]
structure A0 where
 fState:Int
 fBindings:(List B6)
 fStarts:(List Ak)
deriving DecidableEq,Inhabited
def A4 (x:A0):AV:=.agg [aI (x.fState),.sl 4 (x.fBindings.map Ar),.sl 2 (x.fStarts.map Ae)]
abbrev Bl (x:A0):List AV:=[aI (x.fState),.sl 4 (x.fBindings.map Ar),.sl 2 (x.fStarts.map Ae)]
def I3 (n:Nat)(a:A0)(g:A0)(e:Int)(b:Int->Option (Int))(c:Ak)(d:Ak)(f:Bool):Option (Int):=cnd (f) (some (-1))<|cnd (!(decide (c.fScope=d.fScope) && (decide (c.fTime=d.fTime) && true))) (some 1)<|b (aA .i64 (e+1))
def Kf (n:Nat)(a:A0)(h:A0)(b:Int)(f:Option (Int))(c:Int->Option (Int))(g:Bool):Option (Int):=cnd (g) (idx h.fStarts b fun d=>idx a.fStarts b fun e=>jon (I3 n a h b c d e)<|reg<|cnd (decide (d.fScope<e.fScope)) (I3 n a h b c d e true)<|cnd (decide (d.fScope=e.fScope)) (I3 n a h b c d e (decide (d.fTime<e.fTime)))<|I3 n a h b c d e false)<|f
def I2 (n:Nat)(a:A0)(e:A0)(b:Option (Int)):Nat->Int->Option (Int) |0,_=>none |d+1,c=>jon (Kf n a e c b (I2 n a e b d))<|reg<|cnd (decide (c<((e.fStarts.map Ae).length:Int))) (Kf n a e c b (I2 n a e b d) (decide (c<((a.fStarts.map Ae).length:Int))))<|Kf n a e c b (I2 n a e b d) false
def Ih (n:Nat)(b:A0)(a:A0):Option (Int):=cnd (!decide (b.fState=a.fState)) (cnd (decide (b.fState<a.fState)) (some (-1))<|some 1)<|bnd (Lk n (⟨b.fBindings⟩:Ac) (⟨a.fBindings⟩:Ac)) fun c=>cnd (!decide (c=0)) (some c)<|I2 n a b (cnd (decide (((b.fStarts.map Ae).length:Int)<((a.fStarts.map Ae).length:Int))) (some (-1))<|cnd (decide (((a.fStarts.map Ae).length:Int)<((b.fStarts.map Ae).length:Int))) (some 1)<|some 0) n 0
def Lx (n:Nat)(i:A0)(a:(List A0))(b:Int)(c:Bool):Option ((List A0)):=cnd (c) (some a)<|sls a 0 b fun d=>app ([]:List A0) d 56 fun e=>app e [i] 56 fun f=>sls a b ((a.map A4).length:Int) fun g=>app f g 56 fun h=>some h
def Lw (n:Nat)(a:A0)(f:(List A0))(b:Int)(c:Int->Option ((List A0)))(d:Int->Option ((List A0)))(e:Bool):Option ((List A0)):=cnd (e) (d (aA .i64 (b+1)))<|c b
def Ir (n:Nat)(g:A0)(a:(List A0))(b:Int->Option ((List A0))):Nat->Int->Option ((List A0)) |0,_=>none |d+1,c=>jon (Lw n g a c b (Ir n g a b d))<|reg<|cnd (decide (c<((a.map A4).length:Int))) (idx a c fun e=>bnd (Ih n e g) fun f=>Lw n g a c b (Ir n g a b d) (decide (f<0)))<|Lw n g a c b (Ir n g a b d) false
def Ms (n:Nat)(a:(List A0))(e:A0):Option ((List A0)):=Ir n e a (fun b=>jon (Lx n e a b)<|reg<|cnd (decide (b<((a.map A4).length:Int))) (idx a b fun c=>bnd (Ih n c e) fun d=>Lx n e a b (decide (d=0)))<|Lx n e a b false) n 0
def Jb (n:Nat)(b:Bool):Option (Bool):=some b
def Si (n:Nat)(a:Int):Option (Bool):=jon (Jb n)<|reg<|cnd (decide (0<=a)) (Jb n (decide (a<=5)))<|Jb n false
def Hf (n:Nat)(b:Bool):Option (Bool):=some b
def Sh (n:Nat)(a:Int)(b:Ab):Option (Bool):=jon (Hf n)<|reg<|cnd (decide (b.fKind=0)) (Hf n true)<|cnd (!decide (a=1)) (cnd (!decide (a=2)) (Hf n (!decide (a=3)))<|Hf n false)<|Hf n false
def N6 (n:Nat)(d:Int)(b:Ab):Option (Int):=bnd (Hj n b) fun a=>cnd (!decide (a=0)) (some a)<|bnd (Sh n d b) fun c=>cnd (!(c)) (some 9)<|some 0
def Yx (n:Nat)(b:Int)(a:Ab):Option (Ab):=cnd (decide (b=0)) (some (⟨0,0,ByteArray.empty⟩))<|some a
def Yp (n:Nat):Option (Ab):=some (⟨0,0,ByteArray.empty⟩)
def Yo (n:Nat)(b:Ab)(a:Ab):Option (Ab×Ab×Ab):=some (⟨0,(aA .i64 (b.fNum+a.fNum)),ByteArray.empty⟩,b,a)
def Yn (n:Nat)(b:Ab)(a:Ab):Option (Ab×Ab×Ab):=some (⟨0,(min b.fNum a.fNum),ByteArray.empty⟩,b,a)
def Ym (n:Nat)(b:Ab)(a:Ab):Option (Ab×Ab×Ab):=some (⟨0,(max b.fNum a.fNum),ByteArray.empty⟩,b,a)
def Yl (n:Nat)(a:Ab):Option (Ab×Ab):=some (a,a)
def Yk (n:Nat)(a:Ab):Option (Ab×Ab):=some (a,a)
def Vo (n:Nat)(a:Int)(c:Ab)(b:Ab):Option (Ab):=natc a 0 (bnd (Yp n) fun i=>some i)<|natc a 1 (bndM 15 (Yo n c b) fun h=>some h.1)<|natc a 2 (bndM 15 (Yn n c b) fun g=>some g.1)<|natc a 3 (bndM 15 (Ym n c b) fun f=>some f.1)<|natc a 4 (bndM 15 (Yl n c) fun e=>some e.1)<|natc a 5 (bndM 15 (Yk n b) fun d=>some d.1)<|none
def Yy (n:Nat)(a:C2)(b:C2):Option (C2):=cnd (decide (a.fCount=0)) (some b)<|cnd (decide (b.fCount=0)) (some a)<|bnd (Vo n a.fKind a.fValue b.fValue) fun c=>some (⟨a.fKind,(aA .i64 (a.fCount+b.fCount)),c⟩)
def Z2 (n:Nat)(e:C2)(d:Ab)(a:Int):Option (C2):=bnd (Yx n a d) fun c=>bnd (Yy n e (⟨a,1,c⟩:C2)) fun b=>some b
def Rq (n:Nat)(e:Int)(a:(List Ab))(c:Int->Int->Int->Int->ByteArray->Option (C2)):Nat->Int×Int×Int×Int×Int×ByteArray->Option (C2) |0,_=>none |f+1,b=>cnd (decide (b.1<((a.map Ag).length:Int))) (idx a b.1 fun g=>bnd (Z2 n (⟨b.2.1,b.2.2.1,⟨b.2.2.2.1,b.2.2.2.2.1,b.2.2.2.2.2⟩⟩:C2) g e) fun d=>(Rq n e a c f) ((aA .i64 (b.1+1)),d.fKind,d.fCount,d.fValue.fKind,d.fValue.fNum,d.fValue.fText))<|c b.2.1 b.2.2.1 b.2.2.2.1 b.2.2.2.2.1 b.2.2.2.2.2
def Vv (n:Nat)(a:C2)(h:(List Ab))(g:Int):Option (C2):=Rq n g h (fun b c d e f=>some (⟨b,c,⟨d,e,f⟩⟩)) n (0,a.fKind,a.fCount,a.fValue.fKind,a.fValue.fNum,a.fValue.fText)
def Mr (n:Nat)(a:C2)(b:Bool):Option (Int):=cnd (b) (some 2)<|reg<|cnd (decide (a.fCount=0)) (cnd (!((decide (a.fValue.fKind=0) && (decide (a.fValue.fNum=0) && ((a.fValue.fText.toList == ByteArray.empty.toList) && true))))) (some 3)<|some 0)<|cnd (decide (a.fKind=0)) (cnd (!((decide (a.fValue.fKind=0) && (decide (a.fValue.fNum=0) && ((a.fValue.fText.toList == ByteArray.empty.toList) && true))))) (some 3)<|some 0)<|reg<|cnd (decide (a.fKind=1)) (reg<|cnd (decide (a.fValue.fKind=0)) (cnd ((a.fValue.fText.toList == ByteArray.empty.toList)) (cnd (decide ((aA .i64 (0-(aA .i64 (a.fCount*1099511627776))))<=a.fValue.fNum)) (cnd (!(decide (a.fValue.fNum<=(aA .i64 (a.fCount*1099511627776))))) (some 3)<|some 0)<|some 3)<|some 3)<|some 3)<|reg<|bnd (Hj n a.fValue) fun d=>cnd (decide (d=0)) (bnd (Sh n a.fKind a.fValue) fun c=>cnd (!(c)) (some 3)<|some 0)<|some 3
def W5 (n:Nat)(a:C2):Option (Int):=bnd (Si n a.fKind) fun b=>cnd (!(b)) (some 1)<|jon (Mr n a)<|reg<|cnd (decide (a.fCount<0)) (Mr n a true)<|Mr n a (decide (4096<a.fCount))
def Mm (n:Nat)(a:Ab)(c:C2)(b:Bool):Option (Ab×Int):=cnd (b) (some (a,0))<|some (c.fValue,0)
def S7 (n:Nat)(a:C2)(b:Ab):Option (Ab×Int):=bnd (W5 n a) fun d=>cnd (!decide (d=0)) (some (⟨0,0,ByteArray.empty⟩,d))<|bnd (N6 n a.fKind b) fun c=>cnd (!decide (c=0)) (some (⟨0,0,ByteArray.empty⟩,c))<|cnd (decide (a.fKind=0)) (some (⟨0,a.fCount,ByteArray.empty⟩,0))<|jon (Mm n b a)<|reg<|cnd (decide (a.fCount=0)) (Mm n b a (!decide (a.fKind=1)))<|Mm n b a false
def Sj (n:Nat)(h:Ab)(a:(List Ab))(g:Int)(b:Option (Ab×Int)):Nat->Int->Option (Ab×Int) |0,_=>none |d+1,c=>cnd (decide (c<((a.map Ag).length:Int))) (idx a c fun f=>bnd (N6 n g f) fun e=>cnd (!decide (e=0)) (some (⟨0,0,ByteArray.empty⟩,e))<|(Sj n h a g b d) (aA .i64 (c+1)))<|b
def Sw (n:Nat)(a:Int)(d:(List Ab))(e:Ab):Option (Ab×Int):=bnd (Si n a) fun f=>cnd (!(f)) (some (⟨0,0,ByteArray.empty⟩,1))<|cnd (decide (4096<((d.map Ag).length:Int))) (some (⟨0,0,ByteArray.empty⟩,5))<|Sj n e d a (bnd (Vv n (⟨a,0,⟨0,0,ByteArray.empty⟩⟩:C2) d a) fun c=>bnd (S7 n c e) fun b=>some (b.1,b.2)) n 0
def Wu (n:Nat)(a:Int):Option (Bool):=some (!decide (a=a))
def Cy (n:Nat)(b:Int)(a:Int):Option (Int):=bnd (Wu n b) fun d=>bnd (Wu n a) fun c=>cnd (d) (cnd (c) (some 0)<|some (-1))<|cnd (c) (some 1)<|cnd (decide (b<a)) (some (-1))<|cnd (decide (a<b)) (some 1)<|some 0
def T1 (n:Nat)(a:(List Int))(b:Option (Int)):Nat->Int->Option (Int) |0,_=>none |d+1,c=>cnd (decide (c<((a.map aI).length:Int))) (idx a c fun e=>cnd (!decide (e=0)) (some e)<|(T1 n a b d) (aA .i64 (c+1)))<|b
def En (n:Nat)(a:(List Int)):Option (Int):=T1 n a (some 0) n 0
def Wn (n:Nat)(b:Bh)(a:Bh):Option (Int):=bnd (Cy n b.fTime a.fTime) fun f=>bnd (Cy n b.fSource a.fSource) fun e=>bnd (Cy n b.fSeq a.fSeq) fun d=>bnd (En n ([f,e,d])) fun c=>some c
def W4 (n:Nat)(b:B6)(a:B6):Option (Int):=bnd (Wn n (⟨b.fRef.fTime,b.fRef.fSource,b.fRef.fSeq⟩:Bh) (⟨a.fRef.fTime,a.fRef.fSource,a.fRef.fSeq⟩:Bh)) fun e=>bnd (Cy n b.fVar a.fVar) fun d=>bnd (En n ([e,d])) fun c=>some c
def Qr (n:Nat)(a:(List B6))(h:(List B6))(c:Option (Int)):Nat->Int->Option (Int) |0,_=>none |f+1,b=>cnd (decide (b<((h.map Ar).length:Int))) (idx h b fun d=>cnd (decide (((a.map Ar).length:Int)<=b)) (some 1)<|idx a b fun e=>bnd (W4 n (⟨d.fVar,⟨d.fRef.fTime,d.fRef.fSource,d.fRef.fSeq⟩⟩:B6) (⟨e.fVar,⟨e.fRef.fTime,e.fRef.fSource,e.fRef.fSeq⟩⟩:B6)) fun g=>cnd (!decide (g=0)) (some g)<|(Qr n a h c f) (aA .i64 (b+1)))<|c
def Uz (n:Nat)(b:(List B6))(a:(List B6)):Option (Int):=Qr n a b (cnd (decide (((b.map Ar).length:Int)<((a.map Ar).length:Int))) (some (-1))<|some 0) n 0
def Sn (n:Nat)(c:Ac)(b:Ac):Option (Int):=bnd (Uz n c.fBindings b.fBindings) fun a=>some a
def Wb (n:Nat)(b:Ak)(a:Ak):Option (Int):=bnd (Cy n b.fScope a.fScope) fun e=>bnd (Cy n b.fTime a.fTime) fun d=>bnd (En n ([e,d])) fun c=>some c
def Ox (n:Nat)(a:(List Ak))(h:(List Ak))(c:Option (Int)):Nat->Int->Option (Int) |0,_=>none |d+1,b=>cnd (decide (b<((h.map Ae).length:Int))) (idx h b fun f=>cnd (decide (((a.map Ae).length:Int)<=b)) (some 1)<|idx a b fun g=>bnd (Wb n f g) fun e=>cnd (!decide (e=0)) (some e)<|(Ox n a h c d) (aA .i64 (b+1)))<|c
def U7 (n:Nat)(b:(List Ak))(a:(List Ak)):Option (Int):=Ox n a b (cnd (decide (((b.map Ae).length:Int)<((a.map Ae).length:Int))) (some (-1))<|some 0) n 0
def Wf (n:Nat)(b:A0)(a:A0):Option (Int):=bnd (Cy n b.fState a.fState) fun f=>bnd (Sn n (⟨b.fBindings⟩:Ac) (⟨a.fBindings⟩:Ac)) fun e=>bnd (U7 n b.fStarts a.fStarts) fun d=>bnd (En n ([f,e,d])) fun c=>some c
def F9 (n:Nat)(b:Bool):Option (Bool):=some b
def Wk (n:Nat)(a:A8):Option (Bool):=jon (F9 n)<|reg<|cnd (decide (0<=a.fTime)) (cnd (decide (a.fTime<=1099511627776)) (cnd (decide (0<=a.fSource)) (cnd (decide (a.fSource<8)) (cnd (decide (0<=a.fSeq)) (F9 n (decide (a.fSeq<=1099511627776)))<|F9 n false)<|F9 n false)<|F9 n false)<|F9 n false)<|F9 n false
def Jp (n:Nat)(a:A8):Option (Bh):=some (⟨a.fTime,a.fSource,a.fSeq⟩)
def Nu (n:Nat)(b:Bh)(a:Bh):Option (Int):=bnd (Cy n b.fTime a.fTime) fun f=>bnd (Cy n b.fSource a.fSource) fun e=>bnd (Cy n b.fSeq a.fSeq) fun d=>bnd (En n ([f,e,d])) fun c=>some c
def Nl (n:Nat)(b:B6)(d:A8):Option (Bool):=bnd (Jp n d) fun a=>bnd (Nu n (⟨b.fRef.fTime,b.fRef.fSource,b.fRef.fSeq⟩:Bh) (⟨a.fTime,a.fSource,a.fSeq⟩:Bh)) fun c=>some (decide (0<=c))
def Pk (n:Nat)(e:A8)(a:(List B6))(c:Option (Int)):Nat->Int->Option (Int) |0,_=>none |f+1,b=>cnd (decide (b<((a.map Ar).length:Int))) (idx a b fun d=>bnd (Nl n (⟨d.fVar,⟨d.fRef.fTime,d.fRef.fSource,d.fRef.fSeq⟩⟩:B6) e) fun g=>cnd (g) (some b)<|(Pk n e a c f) (aA .i64 (b+1)))<|c
def Uj (n:Nat)(a:(List B6))(b:A8):Option (Int):=Pk n b a (some (-1)) n 0
def U1 (n:Nat)(c:(List B6))(b:A8):Option (Bool):=bnd (Uj n c b) fun a=>some (decide (0<=a))
def Zp (n:Nat)(c:A0)(b:A8):Option (Bool):=bnd (U1 n c.fBindings b) fun a=>some a
def Nm (n:Nat)(c:A0)(b:A8):Option (Bool):=bnd (Zp n c b) fun a=>some a
def Pm (n:Nat)(d:A8)(a:(List A0))(c:Option (Int)):Nat->Int->Option (Int) |0,_=>none |e+1,b=>cnd (decide (b<((a.map A4).length:Int))) (idx a b fun f=>bnd (Nm n f d) fun g=>cnd (g) (some b)<|(Pm n d a c e) (aA .i64 (b+1)))<|c
def Uk (n:Nat)(a:(List A0))(b:A8):Option (Int):=Pm n b a (some (-1)) n 0
def U2 (n:Nat)(c:(List A0))(b:A8):Option (Bool):=bnd (Uk n c b) fun a=>some (decide (0<=a))
def Nv (n:Nat)(d:(List A0))(a:A8):Option (Int):=bnd (Wk n a) fun c=>cnd (!(c)) (some 2)<|bnd (U2 n d a) fun b=>cnd (b) (some 14)<|some 0
attribute [irreducible] L7 Eh Fu Ii Ll Gq Ca Gw Lm Ln Ij E4 M1 Ia Ds Fq Gp Nc Ng Nh Jj Hg Cb Ni Nj Jk E9 Mj J6 Ml E7 G3 F6 Ik Gr L8 L9 La Iz Kw Kv I0 Gg Fl L5 L4 L6 Kg I3 Kf Lx Lw Jb Hf Mr Mm F9
end Go.Proofs.YtidhlpjgifoneaaGreat
