/- What some functions compute, over plain values. -/
import Derived.Test.YthbogefcfhmpgaaGreatK11
set_option linter.unusedVariables false
set_option linter.unusedSimpArgs false
set_option maxRecDepth 100000
set_option maxHeartbeats 8000000
namespace Go.Proofs.YthbogefcfhmpgaaGreat
open Go.RowKit
open IntKind renaming wrap->aA
open Con renaming walk->aB
open AW renaming step->aC
open RetX renaming oB->aD
open Or renaming inr->aE
open Ab renaming o->aF
open Tryz renaming func207->aG,func133->aH,func131->aJ,func132->aK,func130->aL,func129->aM,func204->aN,func203->aO,func125->aP,func64->aR
structure A8 where
 fKind:Int
 fNum:Int
 fText:ByteArray
deriving DecidableEq,Inhabited
def Ac (x:A8):AV:=.agg [aI (x.fKind),aI (x.fNum),.str (x.fText)]
abbrev Ce (x:A8):List AV:=[aI (x.fKind),aI (x.fNum),.str (x.fText)]
structure Ay where
 fOp:Int
 fArgs:(List AV)
 fVar:Int
 fField:Int
 fKind:Int
 fValue:A8
deriving Inhabited
def Au (x:Ay):AV:=.agg [aI (x.fOp),.sl 8 (x.fArgs.map idA),aI (x.fVar),aI (x.fField),aI (x.fKind),aI (x.fValue.fKind),aI (x.fValue.fNum),.str (x.fValue.fText)]
abbrev D0 (x:Ay):List AV:=[aI (x.fOp),.sl 8 (x.fArgs.map idA),aI (x.fVar),aI (x.fField),aI (x.fKind),aI (x.fValue.fKind),aI (x.fValue.fNum),.str (x.fValue.fText)]
def Cb:AV->Option Ay |.agg [.int .i64 h,.sl 8 g,.int .i64 f,.int .i64 e,.int .i64 d,.int .i64 c,.int .i64 b,.str a]=>some ⟨h,g,f,e,d,⟨c,b,a⟩⟩ |_=>none
theorem Dg (a:AV)(y:Ay)(h:Cb a=some y):a=Au y:=by
 unfold Cb at h;split at h
 ·injection h with h;subst h;simp [Au,aI,Sc]
 ·cases h
theorem Re (y:Ay):Cb (Au y)=some y:=by simp [Cb,Au,aI,Sc]
def Kh (n:Nat)(b:Ay->Int->Option (Int))(a:Int)(i:Ay)(c:Int×Int)(d:Int->Option (Int))(e:(Int×Int)->Option (Int))(f:Bool):Option (Int):=cnd (f) (idxD Cb i.fArgs c.2 fun g=>bnd (b g a) fun h=>e ((aA .i64 (c.1+h)),(aA .i64 (c.2+1))))<|d c.1
def I6 (n:Nat)(b:Ay->Int->Option (Int))(a:Int)(f:Ay)(c:Int->Option (Int)):Nat->Int×Int->Option (Int) |0,_=>none |e+1,d=>jon (Kh n b a f d c (I6 n b a f c e))<|reg<|cnd (decide (d.2<((f.fArgs.map idA).length:Int))) (Kh n b a f d c (I6 n b a f c e) (decide (d.1<=a)))<|Kh n b a f d c (I6 n b a f c e) false
def G6:Nat->Ay->Int->Option (Int) |0,_,_=>none |n+1,c,a=>I6 n (G6 n) a c (fun b=>some b) n (1,0)
def P0 (n:Nat)(b:Ay->Option (Int))(a:Ay)(d:Int->Option (Int)):Nat->Int×Int->Option (Int) |0,_=>none |e+1,c=>cnd (decide (c.2<((a.fArgs.map idA).length:Int))) (idxD Cb a.fArgs c.2 fun f=>bnd (b f) fun g=>(P0 n b a d e) ((max c.1 g),(aA .i64 (c.2+1))))<|d c.1
def G5:Nat->Ay->Option (Int) |0,_=>none |n+1,a=>P0 n (G5 n) a (fun b=>some (aA .i64 (b+1))) n (0,0)
def Ej (n:Nat)(b:Bool):Option (Int):=cnd (b) (some 2)<|some (-1)
def Fy (n:Nat)(a:Int)(b:Bool):Option (Int):=cnd (b) (some 0)<|cnd (decide (a=12)) (some 1)<|jon (Ej n)<|reg<|cnd (decide (a=5)) (Ej n (decide (a=5)))<|reg<|cnd (decide (a=6)) (Ej n (decide (a=6)))<|reg<|cnd (decide (a=7)) (Ej n (decide (a=7)))<|reg<|cnd (decide (a=8)) (Ej n (decide (a=8)))<|reg<|cnd (decide (a=9)) (Ej n (decide (a=9)))<|reg<|cnd (decide (a=10)) (Ej n (decide (a=10)))<|Ej n (decide (a=11))
def U8 (n:Nat)(a:Int):Option (Int):=jon (Fy n a)<|reg<|cnd (decide (a=0)) (Fy n a (decide (a=0)))<|reg<|cnd (decide (a=1)) (Fy n a (decide (a=1)))<|reg<|cnd (decide (a=2)) (Fy n a (decide (a=2)))<|reg<|cnd (decide (a=3)) (Fy n a (decide (a=3)))<|Fy n a (decide (a=4))
def I8 (n:Nat)(b:Bool)(c:Bool):Option (Bool×Bool):=some (c,b)
def Ku (n:Nat)(a:Int)(b:Bool):Option (Bool×Bool):=jon (I8 n b)<|reg<|cnd (b) (I8 n b true)<|cnd (decide (a=2)) (I8 n b true)<|I8 n b (decide (a=3))
def Uf (n:Nat)(a:Int):Option (Bool×Bool):=jon (Ku n a)<|reg<|cnd (decide (a=1)) (Ku n a true)<|Ku n a (decide (a=4))
def H0 (n:Nat)(a:A8):Option (Int):=cnd (decide (a.fKind<0)) (some 1)<|cnd (decide (2<a.fKind)) (some 1)<|cnd (decide (a.fKind=2)) (cnd (!decide (a.fNum=0)) (some 3)<|cnd (decide (64<((a.fText.size:Nat):Int))) (some 13)<|some 0)<|cnd (!(a.fText.toList == ByteArray.empty.toList)) (some 3)<|cnd (decide (a.fKind=1)) (cnd (decide (a.fNum<0)) (some 2)<|cnd (decide (1<a.fNum)) (some 2)<|cnd (decide (a.fNum<(-1099511627776))) (some 2)<|cnd (decide (1099511627776<a.fNum)) (some 2)<|some 0)<|cnd (decide (a.fNum<(-1099511627776))) (some 2)<|cnd (decide (1099511627776<a.fNum)) (some 2)<|some 0
def Gs (n:Nat)(b:Bool):Option (Bool):=some b
def Lk (n:Nat)(a:Int)(b:A8):Option (Bool):=jon (Gs n)<|reg<|cnd (decide (b.fKind=0)) (Gs n true)<|cnd (decide (a=0)) (Gs n true)<|cnd (decide (a=4)) (Gs n true)<|Gs n (decide (a=5))
def C9 (n:Nat)(b:Bool):Option (Int):=cnd (b) (some 3)<|some 0
def Gv (n:Nat)(a:Ay)(d:Bool×Bool)(b:Bool)(c:Bool):Option (Int):=cnd (c) (some 9)<|jon (C9 n)<|reg<|cnd (!(d.1)) (cnd (!decide (a.fVar=0)) (C9 n true)<|cnd (!(d.2)) (cnd (!decide (a.fField=0)) (C9 n true)<|cnd (!(decide (a.fOp=4))) (cnd (!decide (a.fKind=0)) (C9 n true)<|cnd (!(b)) (C9 n (!(decide (a.fValue.fKind=0) && (decide (a.fValue.fNum=0) && ((a.fValue.fText.toList == ByteArray.empty.toList) && true)))))<|C9 n false)<|cnd (!(b)) (C9 n (!(decide (a.fValue.fKind=0) && (decide (a.fValue.fNum=0) && ((a.fValue.fText.toList == ByteArray.empty.toList) && true)))))<|C9 n false)<|cnd (!(decide (a.fOp=4))) (cnd (!decide (a.fKind=0)) (C9 n true)<|cnd (!(b)) (C9 n (!(decide (a.fValue.fKind=0) && (decide (a.fValue.fNum=0) && ((a.fValue.fText.toList == ByteArray.empty.toList) && true)))))<|C9 n false)<|cnd (!(b)) (C9 n (!(decide (a.fValue.fKind=0) && (decide (a.fValue.fNum=0) && ((a.fValue.fText.toList == ByteArray.empty.toList) && true)))))<|C9 n false)<|cnd (!(d.2)) (cnd (!decide (a.fField=0)) (C9 n true)<|cnd (!(decide (a.fOp=4))) (cnd (!decide (a.fKind=0)) (C9 n true)<|cnd (!(b)) (C9 n (!(decide (a.fValue.fKind=0) && (decide (a.fValue.fNum=0) && ((a.fValue.fText.toList == ByteArray.empty.toList) && true)))))<|C9 n false)<|cnd (!(b)) (C9 n (!(decide (a.fValue.fKind=0) && (decide (a.fValue.fNum=0) && ((a.fValue.fText.toList == ByteArray.empty.toList) && true)))))<|C9 n false)<|cnd (!(decide (a.fOp=4))) (cnd (!decide (a.fKind=0)) (C9 n true)<|cnd (!(b)) (C9 n (!(decide (a.fValue.fKind=0) && (decide (a.fValue.fNum=0) && ((a.fValue.fText.toList == ByteArray.empty.toList) && true)))))<|C9 n false)<|cnd (!(b)) (C9 n (!(decide (a.fValue.fKind=0) && (decide (a.fValue.fNum=0) && ((a.fValue.fText.toList == ByteArray.empty.toList) && true)))))<|C9 n false
def Kv (n:Nat)(a:Ay)(d:Bool×Bool)(b:Bool)(_:Unit):Option (Int):=jon (Gv n a d b)<|reg<|cnd (decide (a.fOp=4)) (bnd (Lk n a.fKind a.fValue) fun c=>cnd (!(c)) (Gv n a d b true)<|cnd (decide (a.fKind=1)) (Gv n a d b (!(decide (a.fValue.fKind=0) && (decide (a.fValue.fNum=0) && ((a.fValue.fText.toList == ByteArray.empty.toList) && true)))))<|Gv n a d b false)<|Gv n a d b false
def Kw (n:Nat)(a:Ay)(d:Bool×Bool)(b:Bool):Option (Int):=jon (Kv n a d b)<|reg<|cnd (b) (bnd (H0 n a.fValue) fun c=>cnd (!decide (c=0)) (some c)<|Kv n a d b ())<|Kv n a d b ()
def I9 (n:Nat)(a:Ay)(c:Bool×Bool)(b:Bool):Option (Int):=cnd (b) (some 1)<|jon (Kw n a c)<|reg<|cnd (decide (a.fOp=4)) (Kw n a c true)<|Kw n a c (decide (a.fOp=0))
def E5 (n:Nat)(a:Ay)(c:Bool×Bool)(b:Bool):Option (Int):=cnd (b) (some 2)<|jon (I9 n a c)<|reg<|cnd (decide (a.fOp=4)) (cnd (decide (a.fKind<1)) (I9 n a c true)<|I9 n a c (decide (5<a.fKind)))<|I9 n a c false
def Ug (n:Nat)(a:Ay):Option (Int):=bnd (U8 n a.fOp) fun c=>cnd (decide (c<0)) (some 1)<|cnd (!decide (((a.fArgs.map idA).length:Int)=c)) (some 15)<|bnd (Uf n a.fOp) fun b=>jon (E5 n a b)<|reg<|cnd (b.1) (cnd (decide (a.fVar<0)) (E5 n a b true)<|cnd (decide (16<=a.fVar)) (E5 n a b true)<|cnd (b.2) (cnd (decide (a.fField<0)) (E5 n a b true)<|E5 n a b (decide (8<=a.fField)))<|E5 n a b false)<|cnd (b.2) (cnd (decide (a.fField<0)) (E5 n a b true)<|E5 n a b (decide (8<=a.fField)))<|E5 n a b false
def Oz (n:Nat)(b:Ay->Option (Int))(a:Ay)(c:Option (Int)):Nat->Int->Option (Int) |0,_=>none |e+1,d=>cnd (decide (d<((a.fArgs.map idA).length:Int))) (idxD Cb a.fArgs d fun g=>bnd (b g) fun f=>cnd (!decide (f=0)) (some f)<|(Oz n b a c e) (aA .i64 (d+1)))<|c
def Gz:Nat->Ay->Option (Int) |0,_=>none |n+1,b=>bnd (Ug n b) fun a=>cnd (!decide (a=0)) (some a)<|Oz n (Gz n) b (some 0) n 0
def G7 (n:Nat)(a:Ay):Option (Int):=bnd (G6 n a 64) fun d=>cnd (decide (64<d)) (some 5)<|bnd (G5 n a) fun c=>cnd (decide (12<c)) (some 12)<|bnd (Gz n a) fun b=>some b
structure B9 where
 fScope:Int
 fType:Int
 fVar:Int
 fCond:Ay
deriving Inhabited
def B8 (x:B9):AV:=.agg [aI (x.fScope),aI (x.fType),aI (x.fVar),aI (x.fCond.fOp),.sl 8 (x.fCond.fArgs.map idA),aI (x.fCond.fVar),aI (x.fCond.fField),aI (x.fCond.fKind),aI (x.fCond.fValue.fKind),aI (x.fCond.fValue.fNum),.str (x.fCond.fValue.fText)]
abbrev Wa (x:B9):List AV:=[aI (x.fScope),aI (x.fType),aI (x.fVar),aI (x.fCond.fOp),.sl 8 (x.fCond.fArgs.map idA),aI (x.fCond.fVar),aI (x.fCond.fField),aI (x.fCond.fKind),aI (x.fCond.fValue.fKind),aI (x.fCond.fValue.fNum),.str (x.fCond.fValue.fText)]
structure Dm where
 fGuards:(List B9)
deriving Inhabited
def Ao (x:Dm):AV:=.agg [.sl 11 (x.fGuards.map B8)]
structure Bx where
 fScope:Int
 fSpan:Int
deriving DecidableEq,Inhabited
def Bu (x:Bx):AV:=.agg [aI (x.fScope),aI (x.fSpan)]
abbrev Zm (x:Bx):List AV:=[aI (x.fScope),aI (x.fSpan)]
structure Ae where
 fFrom:Int
 fTo:Int
 fVar:Int
 fType:Int
 fCond:Ay
 fOpens:(List Int)
 fCloses:(List Int)
 fChecks:(List AV)
 fLimits:(List Bx)
 fInside:(List Int)
deriving Inhabited
def A9 (x:Ae):AV:=.agg [aI (x.fFrom),aI (x.fTo),aI (x.fVar),aI (x.fType),aI (x.fCond.fOp),.sl 8 (x.fCond.fArgs.map idA),aI (x.fCond.fVar),aI (x.fCond.fField),aI (x.fCond.fKind),aI (x.fCond.fValue.fKind),aI (x.fCond.fValue.fNum),.str (x.fCond.fValue.fText),.sl 1 (x.fOpens.map aI),.sl 1 (x.fCloses.map aI),.sl 8 (x.fChecks.map idA),.sl 2 (x.fLimits.map Bu),.sl 1 (x.fInside.map aI)]
abbrev Bp (x:Ae):List AV:=[aI (x.fFrom),aI (x.fTo),aI (x.fVar),aI (x.fType),aI (x.fCond.fOp),.sl 8 (x.fCond.fArgs.map idA),aI (x.fCond.fVar),aI (x.fCond.fField),aI (x.fCond.fKind),aI (x.fCond.fValue.fKind),aI (x.fCond.fValue.fNum),.str (x.fCond.fValue.fText),.sl 1 (x.fOpens.map aI),.sl 1 (x.fCloses.map aI),.sl 8 (x.fChecks.map idA),.sl 2 (x.fLimits.map Bu),.sl 1 (x.fInside.map aI)]
structure Ad where
 fVars:Int
 fScopes:Int
 fStates:(List Dm)
 fEdges:(List Ae)
deriving Inhabited
def Bi (x:Ad):AV:=.agg [aI (x.fVars),aI (x.fScopes),.sl 1 (x.fStates.map Ao),.sl 17 (x.fEdges.map A9)]
abbrev B3 (x:Ad):List AV:=[aI (x.fVars),aI (x.fScopes),.sl 1 (x.fStates.map Ao),.sl 17 (x.fEdges.map A9)]
def L6 (n:Nat)(b:Bool):Option (Bool):=some b
def D4 (n:Nat)(a:Int)(b:Int):Option (Bool):=jon (L6 n)<|reg<|cnd (decide (a<0)) (L6 n true)<|L6 n (decide (b<a))
def Oc (n:Nat)(a:(List B9))(h:Ad)(c:Int)(b:Option (Int)):Nat->Int->Option (Int) |0,_=>none |e+1,d=>cnd (decide (d<c)) (idx a d fun f=>idx a c fun g=>cnd (decide (f.fScope=g.fScope)) (some 7)<|(Oc n a h c b e) (aA .i64 (d+1)))<|b
def I5 (n:Nat)(a:(List B9))(g:Ad)(b:Int)(c:Int->Option (Int))(e:Bool):Option (Int):=cnd (e) (some 2)<|Oc n a g b (idx a b fun f=>bnd (G7 n f.fCond) fun d=>cnd (!decide (d=0)) (some d)<|c (aA .i64 (b+1))) n 0
def Ft (n:Nat)(a:(List B9))(i:Ad)(b:Option (Int)):Nat->Int->Option (Int) |0,_=>none |d+1,c=>cnd (decide (c<((a.map B8).length:Int))) (jon (I5 n a i c (Ft n a i b d))<|reg<|idx a c fun e=>bnd (D4 n e.fScope (aA .i64 (i.fScopes-1))) fun f=>cnd (f) (I5 n a i c (Ft n a i b d) true)<|idx a c fun g=>bnd (D4 n g.fType 15) fun h=>cnd (h) (I5 n a i c (Ft n a i b d) true)<|idx a c fun j=>bnd (D4 n j.fVar (aA .i64 (i.fVars-1))) fun k=>I5 n a i c (Ft n a i b d) k)<|b
def Ty (n:Nat)(b:Ad)(a:(List B9)):Option (Int):=cnd (decide (64<((a.map B8).length:Int))) (some 5)<|Ft n a b (some 0) n 0
def Ob (n:Nat)(h:Int)(a:(List Int))(c:Int)(b:Option (Int)):Nat->Int->Option (Int) |0,_=>none |e+1,d=>cnd (decide (d<c)) (idx a d fun f=>idx a c fun g=>cnd (decide (f=g)) (some 7)<|(Ob n h a c b e) (aA .i64 (d+1)))<|b
def K2 (n:Nat)(g:Int)(a:(List Int))(c:Option (Int)):Nat->Int->Option (Int) |0,_=>none |d+1,b=>cnd (decide (b<((a.map aI).length:Int))) (idx a b fun e=>bnd (D4 n e (aA .i64 (g-1))) fun f=>cnd (f) (some 2)<|Ob n g a b ((K2 n g a c d) (aA .i64 (b+1))) n 0)<|c
def Pp (n:Nat)(b:(List Int))(a:Int):Option (Int):=K2 n a b (some 0) n 0
def Kd (n:Nat)(a:Ae)(b:Option (Int)):Nat->Int->Option (Int) |0,_=>none |d+1,c=>cnd (decide (c<((a.fLimits.map Bu).length:Int))) (idx a.fLimits c fun e=>bnd (D4 n e.fSpan 1099511627776) fun f=>cnd (f) (some 2)<|(Kd n a b d) (aA .i64 (c+1)))<|b
def Gp (n:Nat)(a:Ae)(h:Ad)(b:(List Int))(c:Option (Int)):Nat->Int->Option (Int) |0,_=>none |f+1,d=>cnd (decide (d<4)) (idx ([a.fOpens,a.fCloses,a.fInside,b]:List (List Int)) d fun g=>bnd (Pp n g h.fScopes) fun e=>cnd (!decide (e=0)) (some e)<|(Gp n a h b c f) (aA .i64 (d+1)))<|c
def Ov (n:Nat)(a:Ae)(g:Ad)(c:(List Int)->Option (Int)):Nat->Int×(List Int)->Option (Int) |0,_=>none |d+1,b=>cnd (decide (b.1<((a.fLimits.map Bu).length:Int))) (idx a.fLimits b.1 fun e=>app b.2 [e.fScope] 8 fun f=>(Ov n a g c d) ((aA .i64 (b.1+1)),f))<|c b.2
def Q2 (n:Nat)(c:Ad)(a:Ae):Option (Int):=Ov n a c (fun b=>frz 7026<|reg<|Gp n a c b (Kd n a (some 0) n 0) n 0) n (0,[])
def Pb (n:Nat)(a:Ae)(g:Ad)(b:Option (Int)):Nat->Int->Option (Int) |0,_=>none |d+1,c=>cnd (decide (c<((a.fChecks.map idA).length:Int))) (idxD Cb a.fChecks c fun f=>bnd (G7 n f) fun e=>cnd (!decide (e=0)) (some e)<|(Pb n a g b d) (aA .i64 (c+1)))<|b
def Dt (n:Nat)(f:Int)(a:Ae)(e:Ad)(b:Bool):Option (Int):=cnd (b) (some 2)<|cnd (decide (a.fFrom<f)) (some 14)<|bnd (G7 n a.fCond) fun d=>cnd (!decide (d=0)) (some d)<|cnd (decide (64<((a.fChecks.map idA).length:Int))) (some 5)<|Pb n a e (bnd (Q2 n e a) fun c=>some c) n 0
def Ud (n:Nat)(h:Ad)(a:Ae)(i:Int):Option (Int):=jon (Dt n i a h)<|reg<|bnd (D4 n a.fFrom (aA .i64 (((h.fStates.map Ao).length:Int)-1))) fun b=>cnd (b) (Dt n i a h true)<|cnd (!decide (a.fTo=(-1))) (bnd (D4 n a.fTo (aA .i64 (((h.fStates.map Ao).length:Int)-1))) fun c=>cnd (c) (Dt n i a h true)<|bnd (D4 n a.fVar (aA .i64 (h.fVars-1))) fun d=>cnd (d) (Dt n i a h true)<|bnd (D4 n a.fType 15) fun e=>Dt n i a h e)<|bnd (D4 n a.fVar (aA .i64 (h.fVars-1))) fun f=>cnd (f) (Dt n i a h true)<|bnd (D4 n a.fType 15) fun g=>Dt n i a h g
def Ow (n:Nat)(a:Ad)(c:Option (Int)):Nat->Int×Int->Option (Int) |0,_=>none |d+1,b=>cnd (decide (b.2<((a.fEdges.map A9).length:Int))) (idx a.fEdges b.2 fun f=>bnd (Ud n a f b.1) fun e=>cnd (!decide (e=0)) (some e)<|idx a.fEdges b.2 fun g=>(Ow n a c d) (g.fFrom,(aA .i64 (b.2+1))))<|c
def Ox (n:Nat)(a:Ad)(b:Option (Int)):Nat->Int->Option (Int) |0,_=>none |d+1,c=>cnd (decide (c<((a.fStates.map Ao).length:Int))) (idx a.fStates c fun f=>bnd (Ty n a f.fGuards) fun e=>cnd (!decide (e=0)) (some e)<|(Ox n a b d) (aA .i64 (c+1)))<|b
def Fv (n:Nat)(a:Ad)(b:Bool):Option (Int):=cnd (b) (some 5)<|Ox n a (Ow n a (some 0) n (0,0)) n 0
def Gq (n:Nat)(a:Ad)(b:Bool):Option (Int):=cnd (b) (some 2)<|jon (Fv n a)<|reg<|cnd (decide (((a.fStates.map Ao).length:Int)<1)) (Fv n a true)<|cnd (decide (256<((a.fStates.map Ao).length:Int))) (Fv n a true)<|Fv n a (decide (2048<((a.fEdges.map A9).length:Int)))
def G3 (n:Nat)(a:Ad):Option (Int):=jon (Gq n a)<|reg<|bnd (D4 n a.fVars 16) fun b=>cnd (b) (Gq n a true)<|bnd (D4 n a.fScopes 64) fun c=>Gq n a c
def Rp (n:Nat)(b:Ay->Option (Int×Int))(a:Ay)(d:Int->Int->Option (Int×Int)):Nat->Int×Int×Int->Option (Int×Int) |0,_=>none |e+1,c=>cnd (decide (c.2.2<((a.fArgs.map idA).length:Int))) (idxD Cb a.fArgs c.2.2 fun g=>bnd (b g) fun f=>(Rp n b a d e) ((aA .i64 (c.1+f.1)),(max c.2.1 f.2),(aA .i64 (c.2.2+1))))<|d c.1 c.2.1
def Hn:Nat->Ay->Option (Int×Int) |0,_=>none |n+1,a=>Rp n (Hn n) a (fun b c=>some (b,(aA .i64 (c+1)))) n (1,0,0)
def Mc (n:Nat)(a:Int)(b:Bool):Option (Int×Bool):=cnd (b) (some (0,false))<|cnd (decide (a<5)) (some (0,true))<|cnd (decide (a=12)) (some (1,true))<|some (2,true)
def W8 (n:Nat)(a:Int):Option (Int×Bool):=jon (Mc n a)<|reg<|cnd (decide (a<0)) (Mc n a true)<|Mc n a (decide (12<a))
def Mf (n:Nat)(b:Bool):Option (Bool×Bool):=cnd (b) (some (true,false))<|some (false,false)
def Mg (n:Nat)(a:Int)(b:Bool):Option (Bool×Bool):=cnd (b) (some (true,true))<|jon (Mf n)<|reg<|cnd (decide (a=2)) (Mf n (decide (a=2)))<|Mf n (decide (a=3))
def Rv (n:Nat)(a:Int):Option (Bool×Bool):=jon (Mg n a)<|reg<|cnd (decide (a=1)) (Mg n a (decide (a=1)))<|Mg n a (decide (a=4))
def Ml (n:Nat)(a:A8):Option (Int):=cnd (decide (a.fKind=0)) (cnd (decide (a.fNum<(-1099511627776))) (some 2)<|cnd (decide (1099511627776<a.fNum)) (some 2)<|cnd (decide (a.fKind=1)) (cnd (!decide (a.fNum=0)) (cnd (!decide (a.fNum=1)) (some 2)<|cnd (decide (64<((a.fText.size:Nat):Int))) (some 13)<|some 0)<|cnd (decide (64<((a.fText.size:Nat):Int))) (some 13)<|some 0)<|cnd (decide (64<((a.fText.size:Nat):Int))) (some 13)<|some 0)<|cnd (decide (a.fKind=1)) (cnd (!decide (a.fNum=0)) (cnd (!decide (a.fNum=1)) (some 2)<|cnd (decide (64<((a.fText.size:Nat):Int))) (some 13)<|some 0)<|cnd (decide (64<((a.fText.size:Nat):Int))) (some 13)<|some 0)<|cnd (decide (64<((a.fText.size:Nat):Int))) (some 13)<|some 0
def Gc (n:Nat)(a:A8):Option (Int):=cnd (decide (a.fKind=0)) (cnd (decide (a.fKind=0)) (cnd (!(a.fText.toList == ByteArray.empty.toList)) (some 3)<|bnd (Ml n a) fun e=>some e)<|cnd (decide (a.fKind=2)) (cnd (!decide (a.fNum=0)) (some 3)<|bnd (Ml n a) fun d=>some d)<|some 1)<|cnd (decide (a.fKind=1)) (cnd (!(a.fText.toList == ByteArray.empty.toList)) (some 3)<|bnd (Ml n a) fun c=>some c)<|cnd (decide (a.fKind=2)) (cnd (!decide (a.fNum=0)) (some 3)<|bnd (Ml n a) fun b=>some b)<|some 1
def J5 (n:Nat)(b:Bool):Option (Bool):=some b
def W7 (n:Nat)(a:Int)(b:A8):Option (Bool):=jon (J5 n)<|reg<|cnd (decide (b.fKind=0)) (J5 n true)<|cnd (decide (a=4)) (J5 n true)<|J5 n (decide (a=5))
def Hd (n:Nat)(b:Bool):Option (Int):=cnd (b) (some 9)<|some 0
def Vn (n:Nat)(a:Ay):Option (Int):=bnd (Gc n a.fValue) fun b=>cnd (!decide (b=0)) (some b)<|jon (Hd n)<|reg<|cnd (decide (a.fOp=4)) (bnd (W7 n a.fKind a.fValue) fun c=>cnd (!(c)) (Hd n true)<|cnd (decide (a.fKind=1)) (Hd n (!(decide (a.fValue.fKind=0) && (decide (a.fValue.fNum=0) && ((a.fValue.fText.toList == ByteArray.empty.toList) && true)))))<|Hd n false)<|Hd n false
def Ca (n:Nat)(b:Bool):Option (Int):=cnd (b) (some 3)<|some 0
def Mh (n:Nat)(a:Ay)(c:Bool×Bool)(b:Bool)(_:Unit):Option (Int):=jon (Ca n)<|reg<|cnd (!(c.1)) (cnd (!decide (a.fVar=0)) (Ca n true)<|cnd (!(c.2)) (cnd (!decide (a.fField=0)) (Ca n true)<|cnd (!(decide (a.fOp=4))) (cnd (!decide (a.fKind=0)) (Ca n true)<|cnd (!(b)) (Ca n (!(decide (a.fValue.fKind=0) && (decide (a.fValue.fNum=0) && ((a.fValue.fText.toList == ByteArray.empty.toList) && true)))))<|Ca n false)<|cnd (!(b)) (Ca n (!(decide (a.fValue.fKind=0) && (decide (a.fValue.fNum=0) && ((a.fValue.fText.toList == ByteArray.empty.toList) && true)))))<|Ca n false)<|cnd (!(decide (a.fOp=4))) (cnd (!decide (a.fKind=0)) (Ca n true)<|cnd (!(b)) (Ca n (!(decide (a.fValue.fKind=0) && (decide (a.fValue.fNum=0) && ((a.fValue.fText.toList == ByteArray.empty.toList) && true)))))<|Ca n false)<|cnd (!(b)) (Ca n (!(decide (a.fValue.fKind=0) && (decide (a.fValue.fNum=0) && ((a.fValue.fText.toList == ByteArray.empty.toList) && true)))))<|Ca n false)<|cnd (!(c.2)) (cnd (!decide (a.fField=0)) (Ca n true)<|cnd (!(decide (a.fOp=4))) (cnd (!decide (a.fKind=0)) (Ca n true)<|cnd (!(b)) (Ca n (!(decide (a.fValue.fKind=0) && (decide (a.fValue.fNum=0) && ((a.fValue.fText.toList == ByteArray.empty.toList) && true)))))<|Ca n false)<|cnd (!(b)) (Ca n (!(decide (a.fValue.fKind=0) && (decide (a.fValue.fNum=0) && ((a.fValue.fText.toList == ByteArray.empty.toList) && true)))))<|Ca n false)<|cnd (!(decide (a.fOp=4))) (cnd (!decide (a.fKind=0)) (Ca n true)<|cnd (!(b)) (Ca n (!(decide (a.fValue.fKind=0) && (decide (a.fValue.fNum=0) && ((a.fValue.fText.toList == ByteArray.empty.toList) && true)))))<|Ca n false)<|cnd (!(b)) (Ca n (!(decide (a.fValue.fKind=0) && (decide (a.fValue.fNum=0) && ((a.fValue.fText.toList == ByteArray.empty.toList) && true)))))<|Ca n false
def Mi (n:Nat)(a:Ay)(c:Bool×Bool)(b:Bool):Option (Int):=jon (Mh n a c b)<|reg<|cnd (b) (bnd (Vn n a) fun d=>cnd (!decide (d=0)) (some d)<|Mh n a c b ())<|Mh n a c b ()
def J6 (n:Nat)(a:Ay)(c:Bool×Bool)(b:Bool):Option (Int):=cnd (b) (some 1)<|jon (Mi n a c)<|reg<|cnd (decide (a.fOp=4)) (Mi n a c true)<|Mi n a c (decide (a.fOp=0))
def E7 (n:Nat)(a:Ay)(c:Bool×Bool)(b:Bool):Option (Int):=cnd (b) (some 2)<|jon (J6 n a c)<|reg<|cnd (decide (a.fOp=4)) (cnd (decide (a.fKind<1)) (J6 n a c true)<|J6 n a c (decide (5<a.fKind)))<|J6 n a c false
def Wd (n:Nat)(a:Ay):Option (Int):=bnd (W8 n a.fOp) fun c=>cnd (!(c.2)) (some 1)<|cnd (!decide (((a.fArgs.map idA).length:Int)=c.1)) (some 15)<|bnd (Rv n a.fOp) fun b=>jon (E7 n a b)<|reg<|cnd (b.1) (cnd (decide (a.fVar<0)) (E7 n a b true)<|cnd (decide (16<=a.fVar)) (E7 n a b true)<|cnd (b.2) (cnd (decide (a.fField<0)) (E7 n a b true)<|E7 n a b (decide (8<=a.fField)))<|E7 n a b false)<|cnd (b.2) (cnd (decide (a.fField<0)) (E7 n a b true)<|E7 n a b (decide (8<=a.fField)))<|E7 n a b false
def Rj (n:Nat)(b:Ay->Option (Int))(a:Ay)(c:Option (Int)):Nat->Int->Option (Int) |0,_=>none |e+1,d=>cnd (decide (d<((a.fArgs.map idA).length:Int))) (idxD Cb a.fArgs d fun g=>bnd (b g) fun f=>cnd (!decide (f=0)) (some f)<|(Rj n b a c e) (aA .i64 (d+1)))<|c
def Hk:Nat->Ay->Option (Int) |0,_=>none |n+1,b=>bnd (Wd n b) fun a=>cnd (!decide (a=0)) (some a)<|Rj n (Hk n) b (some 0) n 0
def Hm (n:Nat)(b:Ay):Option (Int):=bnd (Hn n b) fun a=>cnd (decide (64<a.1)) (some 5)<|cnd (decide (12<a.2)) (some 12)<|bnd (Hk n b) fun c=>some c
def Lm (n:Nat)(b:Bool):Option (Bool):=some b
def Ek (n:Nat)(a:Int)(b:Int):Option (Bool):=jon (Lm n)<|reg<|cnd (decide (0<=a)) (Lm n (decide (a<b)))<|Lm n false
def Qi (n:Nat)(b:B9)(a:B9):Option (Bool):=some (decide (b.fScope=a.fScope))
def Q6 (n:Nat)(d:B9)(a:(List B9))(c:Option (Int)):Nat->Int->Option (Int) |0,_=>none |e+1,b=>cnd (decide (b<((a.map B8).length:Int))) (idx a b fun f=>bnd (Qi n f d) fun g=>cnd (g) (some b)<|(Q6 n d a c e) (aA .i64 (b+1)))<|c
def V6 (n:Nat)(a:(List B9))(b:B9):Option (Int):=Q6 n b a (some (-1)) n 0
def Q7 (n:Nat)(c:(List B9))(b:B9):Option (Bool):=bnd (V6 n c b) fun a=>some (decide (0<=a))
def Ir (n:Nat)(a:(List B9))(i:Ad)(b:Int)(c:Int->Option (Int))(d:B9)(f:Bool):Option (Int):=cnd (f) (some 2)<|sls a 0 b fun g=>bnd (Q7 n g d) fun h=>cnd (h) (some 7)<|bnd (Hm n d.fCond) fun e=>cnd (!decide (e=0)) (some e)<|c (aA .i64 (b+1))
def G8 (n:Nat)(a:(List B9))(i:Ad)(b:Option (Int)):Nat->Int->Option (Int) |0,_=>none |d+1,c=>cnd (decide (c<((a.map B8).length:Int))) (idx a c fun e=>jon (Ir n a i c (G8 n a i b d) e)<|reg<|bnd (Ek n e.fScope i.fScopes) fun f=>cnd (!(f)) (Ir n a i c (G8 n a i b d) e true)<|bnd (Ek n e.fType 16) fun g=>cnd (!(g)) (Ir n a i c (G8 n a i b d) e true)<|bnd (Ek n e.fVar i.fVars) fun h=>Ir n a i c (G8 n a i b d) e !(h))<|b
def Vb (n:Nat)(b:Ad)(a:(List B9)):Option (Int):=cnd (decide (64<((a.map B8).length:Int))) (some 5)<|G8 n a b (some 0) n 0
def Py (n:Nat)(a:(List Bx))(c:(List Int)->Option ((List Int))):Nat->Int×(List Int)->Option ((List Int)) |0,_=>none |d+1,b=>cnd (decide (b.1<((a.map Bu).length:Int))) (idx a b.1 fun e=>app b.2 [e.fScope] 8 fun f=>(Py n a c d) ((aA .i64 (b.1+1)),f))<|c b.2
def Qn (n:Nat)(a:(List Bx)):Option ((List Int)):=Py n a (fun b=>some b) n (0,[])
def Qw (n:Nat)(f:Int)(a:(List Int))(c:Option (Int)):Nat->Int->Option (Int) |0,_=>none |d+1,b=>cnd (decide (b<((a.map aI).length:Int))) (idx a b fun e=>cnd (decide (f=e)) (some b)<|(Qw n f a c d) (aA .i64 (b+1)))<|c
def Za (n:Nat)(b:(List Int))(a:Int):Option (Int):=Qw n a b (some (-1)) n 0
def Dl (n:Nat)(c:(List Int))(b:Int):Option (Bool):=bnd (Za n c b) fun a=>some (decide (0<=a))
def H4 (n:Nat)(i:(List (List Int)))(a:Ad)(g:Int)(d:(List Int))(c:Option (Int)):Nat->Int->Option (Int) |0,_=>none |e+1,b=>cnd (decide (b<((d.map aI).length:Int))) (idx d b fun f=>bnd (Ek n f a.fScopes) fun h=>cnd (!(h)) (some 2)<|sls d 0 b fun j=>bnd (Dl n j f) fun k=>cnd (k) (some 7)<|(H4 n i a g d c e) (aA .i64 (b+1)))<|c
def Iq (n:Nat)(a:(List (List Int)))(f:Ad)(c:Option (Int)):Nat->Int->Option (Int) |0,_=>none |d+1,b=>cnd (decide (b<(((List.map (fun q=>AV.sl 1 (List.map aI q)) (a)).length:Nat):Int))) (idx a b fun e=>H4 n a f b e ((Iq n a f c d) (aA .i64 (b+1))) n 0)<|c
def V9 (n:Nat)(b:Ad)(a:(List (List Int))):Option (Int):=Iq n a b (some 0) n 0
def Iu (n:Nat)(b:Bool):Option (Bool):=some b
def Iy (n:Nat)(a:Bx):Option (Bool):=jon (Iu n)<|reg<|cnd (decide (a.fSpan<0)) (Iu n true)<|Iu n (decide (1099511627776<a.fSpan))
def Oh (n:Nat)(a:(List Bx))(c:Option (Int)):Nat->Int->Option (Int) |0,_=>none |d+1,b=>cnd (decide (b<((a.map Bu).length:Int))) (idx a b fun e=>bnd (Iy n e) fun f=>cnd (f) (some b)<|(Oh n a c d) (aA .i64 (b+1)))<|c
def U2 (n:Nat)(a:(List Bx)):Option (Int):=Oh n a (some (-1)) n 0
def Oi (n:Nat)(b:(List Bx)):Option (Bool):=bnd (U2 n b) fun a=>some (decide (0<=a))
def He (n:Nat)(a:Ae)(g:Ad)(b:Option (Int)):Nat->Int->Option (Int) |0,_=>none |d+1,c=>cnd (decide (c<((a.fChecks.map idA).length:Int))) (idxD Cb a.fChecks c fun f=>bnd (Hm n f) fun e=>cnd (!decide (e=0)) (some e)<|(He n a g b d) (aA .i64 (c+1)))<|b
def Df (n:Nat)(h:Int)(a:Ae)(g:Ad)(c:Bool):Option (Int):=cnd (c) (some 2)<|cnd (decide (a.fFrom<h)) (some 14)<|bnd (Hm n a.fCond) fun f=>cnd (!decide (f=0)) (some f)<|cnd (decide (64<((a.fChecks.map idA).length:Int))) (some 5)<|He n a g (bnd (Qn n a.fLimits) fun d=>bnd (V9 n g ([a.fOpens,a.fCloses,a.fInside,d])) fun b=>cnd (!decide (b=0)) (some b)<|bnd (Oi n a.fLimits) fun e=>cnd (e) (some 2)<|some 0) n 0
def J2 (n:Nat)(e:Ad)(a:Ae)(f:Int):Option (Int):=jon (Df n f a e)<|reg<|bnd (Ek n a.fFrom ((e.fStates.map Ao).length:Int)) fun b=>cnd (!(b)) (Df n f a e true)<|cnd (decide (a.fTo<(-1))) (Df n f a e true)<|cnd (decide (((e.fStates.map Ao).length:Int)<=a.fTo)) (Df n f a e true)<|bnd (Ek n a.fVar e.fVars) fun c=>cnd (!(c)) (Df n f a e true)<|bnd (Ek n a.fType 16) fun d=>Df n f a e !(d)
def H8 (n:Nat)(a:Ad)(c:Option (Int)):Nat->Int×Int->Option (Int) |0,_=>none |d+1,b=>cnd (decide (b.2<((a.fEdges.map A9).length:Int))) (idx a.fEdges b.2 fun e=>bnd (J2 n a e b.1) fun f=>cnd (!decide (f=0)) (some f)<|(H8 n a c d) (e.fFrom,(aA .i64 (b.2+1))))<|c
def H9 (n:Nat)(a:Ad)(b:Option (Int)):Nat->Int->Option (Int) |0,_=>none |d+1,c=>cnd (decide (c<((a.fStates.map Ao).length:Int))) (idx a.fStates c fun f=>bnd (Vb n a f.fGuards) fun e=>cnd (!decide (e=0)) (some e)<|(H9 n a b d) (aA .i64 (c+1)))<|b
def Dw (n:Nat)(a:Ad)(b:Bool):Option (Int):=cnd (b) (some 5)<|H9 n a (H8 n a (some 0) n (0,0)) n 0
def Dx (n:Nat)(a:Ad)(b:Bool):Option (Int):=cnd (b) (some 2)<|jon (Dw n a)<|reg<|cnd (decide (((a.fStates.map Ao).length:Int)<1)) (Dw n a true)<|cnd (decide (256<((a.fStates.map Ao).length:Int))) (Dw n a true)<|Dw n a (decide (2048<((a.fEdges.map A9).length:Int)))
def Cs (n:Nat)(a:Ad):Option (Int):=jon (Dx n a)<|reg<|cnd (decide (a.fVars<0)) (Dx n a true)<|cnd (decide (16<a.fVars)) (Dx n a true)<|cnd (decide (a.fScopes<0)) (Dx n a true)<|Dx n a (decide (64<a.fScopes))
def Ia (n:Nat)(b:Bool):Option (Bool):=some b
def Qe (n:Nat)(a:Int):Option (Bool):=jon (Ia n)<|reg<|cnd (decide (0<=a)) (Ia n (decide (a<=5)))<|Ia n false
structure C1 where
 fKind:Int
 fCount:Int
 fValue:A8
deriving DecidableEq,Inhabited
def E6 (x:C1):AV:=.agg [aI (x.fKind),aI (x.fCount),aI (x.fValue.fKind),aI (x.fValue.fNum),.str (x.fValue.fText)]
abbrev Ve (x:C1):List AV:=[aI (x.fKind),aI (x.fCount),aI (x.fValue.fKind),aI (x.fValue.fNum),.str (x.fValue.fText)]
def Gt (n:Nat)(b:Bool):Option (Int):=cnd (b) (some 3)<|some 0
def Ki (n:Nat)(b:Bool):Option (Int):=cnd (b) (some 3)<|some 0
def Kj (n:Nat)(a:C1)(b:Bool):Option (Int):=cnd (b) (cnd (!(decide (a.fValue.fKind=0) && (decide (a.fValue.fNum=0) && ((a.fValue.fText.toList == ByteArray.empty.toList) && true)))) (some 3)<|some 0)<|cnd (decide (a.fKind=1)) (jon (Gt n)<|reg<|cnd (!decide (a.fValue.fKind=0)) (Gt n true)<|cnd (!(a.fValue.fText.toList == ByteArray.empty.toList)) (Gt n true)<|cnd (decide (a.fValue.fNum<(aA .i64 (0-(aA .i64 (a.fCount*1099511627776)))))) (Gt n true)<|Gt n (decide ((aA .i64 (a.fCount*1099511627776))<a.fValue.fNum)))<|jon (Ki n)<|reg<|bnd (H0 n a.fValue) fun d=>cnd (!decide (d=0)) (Ki n true)<|bnd (Lk n a.fKind a.fValue) fun c=>Ki n !(c)
def Kk (n:Nat)(a:C1)(b:Bool):Option (Int):=cnd (b) (some 2)<|jon (Kj n a)<|reg<|cnd (decide (a.fCount=0)) (Kj n a true)<|Kj n a (decide (a.fKind=0))
def Q5 (n:Nat)(a:C1):Option (Int):=bnd (Qe n a.fKind) fun b=>cnd (!(b)) (some 1)<|jon (Kk n a)<|reg<|cnd (decide (a.fCount<0)) (Kk n a true)<|Kk n a (decide (4096<a.fCount))
def Q3 (n:Nat)(d:Int)(b:A8):Option (Int):=bnd (H0 n b) fun a=>cnd (!decide (a=0)) (some a)<|bnd (Lk n d b) fun c=>cnd (!(c)) (some 9)<|some 0
def Tk (n:Nat)(a:Int)(c:A8)(b:A8):Option (A8):=cnd (decide (a=1)) (some (⟨0,(aA .i64 (c.fNum+b.fNum)),ByteArray.empty⟩))<|cnd (decide (a=2)) (some (⟨0,(min c.fNum b.fNum),ByteArray.empty⟩))<|cnd (decide (a=3)) (some (⟨0,(max c.fNum b.fNum),ByteArray.empty⟩))<|cnd (decide (a=4)) (some c)<|cnd (decide (a=5)) (some b)<|some (⟨0,0,ByteArray.empty⟩)
def Il (n:Nat)(a:C1)(b:Int×Int×ByteArray):Option (C1×Int):=some (⟨a.fKind,(aA .i64 (a.fCount+1)),⟨b.1,b.2.1,b.2.2⟩⟩,0)
def Up (n:Nat)(a:C1)(b:A8):Option (C1×Int):=bnd (Q5 n a) fun e=>cnd (!decide (e=0)) (some (⟨0,0,⟨0,0,ByteArray.empty⟩⟩,e))<|bnd (Q3 n a.fKind b) fun d=>cnd (!decide (d=0)) (some (⟨0,0,⟨0,0,ByteArray.empty⟩⟩,d))<|cnd (decide (a.fCount=4096)) (some (⟨0,0,⟨0,0,ByteArray.empty⟩⟩,5))<|jon (Il n a)<|reg<|cnd (decide (a.fKind=0)) (Il n a (0,0,ByteArray.empty))<|reg<|cnd (decide (0<a.fCount)) (bnd (Tk n a.fKind a.fValue b) fun c=>Il n a (c.fKind,c.fNum,c.fText))<|Il n a (b.fKind,b.fNum,b.fText)
def K5 (n:Nat)(a:A8)(c:C1)(b:Bool):Option (A8×Int):=cnd (b) (some (a,0))<|some (c.fValue,0)
def Ps (n:Nat)(a:C1)(b:A8):Option (A8×Int):=bnd (Q5 n a) fun d=>cnd (!decide (d=0)) (some (⟨0,0,ByteArray.empty⟩,d))<|bnd (Q3 n a.fKind b) fun c=>cnd (!decide (c=0)) (some (⟨0,0,ByteArray.empty⟩,c))<|cnd (decide (a.fKind=0)) (some (⟨0,a.fCount,ByteArray.empty⟩,0))<|jon (K5 n b a)<|reg<|cnd (decide (a.fCount=0)) (K5 n b a (!decide (a.fKind=1)))<|K5 n b a false
def Q4 (n:Nat)(g:A8)(a:(List A8))(d:Int->Int->Int->Int->ByteArray->Option (A8×Int)):Nat->Int×Int×Int×Int×Int×ByteArray->Option (A8×Int) |0,_=>none |e+1,b=>cnd (decide (b.1<((a.map Ac).length:Int))) (idx a b.1 fun f=>bnd (Up n (⟨b.2.1,b.2.2.1,⟨b.2.2.2.1,b.2.2.2.2.1,b.2.2.2.2.2⟩⟩:C1) f) fun c=>cnd (!decide (c.2=0)) (some (⟨0,0,ByteArray.empty⟩,c.2))<|(Q4 n g a d e) ((aA .i64 (b.1+1)),c.1.fKind,c.1.fCount,c.1.fValue.fKind,c.1.fValue.fNum,c.1.fValue.fText))<|d b.2.1 b.2.2.1 b.2.2.2.1 b.2.2.2.2.1 b.2.2.2.2.2
def Qo (n:Nat)(i:Int)(h:(List A8))(a:A8):Option (A8×Int):=bnd (Qe n i) fun j=>cnd (!(j)) (some (⟨0,0,ByteArray.empty⟩,1))<|cnd (decide (4096<((h.map Ac).length:Int))) (some (⟨0,0,ByteArray.empty⟩,5))<|Q4 n a h (fun b c d e f=>bnd (Ps n (⟨b,c,⟨d,e,f⟩⟩:C1) a) fun g=>some (g.1,g.2)) n (0,i,0,0,0,ByteArray.empty)
structure A6 where
 fSource:Int
 fSeq:Int
 fType:Int
 fTime:Int
 fValues:(List A8)
deriving DecidableEq,Inhabited
def A7 (x:A6):AV:=.agg [aI (x.fSource),aI (x.fSeq),aI (x.fType),aI (x.fTime),.sl 3 (x.fValues.map Ac)]
abbrev Bo (x:A6):List AV:=[aI (x.fSource),aI (x.fSeq),aI (x.fType),aI (x.fTime),.sl 3 (x.fValues.map Ac)]
structure Aq where
 fVars:(List (List A6))
deriving DecidableEq,Inhabited
def Dn (x:Aq):AV:=.agg [.sl 1 (List.map (fun q=>AV.sl 5 (List.map A7 q)) (x.fVars))]
abbrev Dp (x:Aq):List AV:=[.sl 1 (List.map (fun q=>AV.sl 5 (List.map A7 q)) (x.fVars))]
def K4 (n:Nat)(c:Int)(d:Aq)(b:Bool):Option ((List A6)):=cnd (b) (some [])<|idx d.fVars c fun a=>some a
def Lb (n:Nat)(b:Aq)(a:Int):Option ((List A6)):=jon (K4 n a b)<|reg<|cnd (decide (a<0)) (K4 n a b true)<|K4 n a b (decide ((((List.map (fun q=>AV.sl 5 (List.map A7 q)) (b.fVars)).length:Nat):Int)<=a))
def Yo (n:Nat)(f:Aq)(b:Int)(e:Int)(d:A6):Option (A6×Bool):=cnd (decide (b=e)) (some (d,true))<|bnd (Lb n (⟨f.fVars⟩:Aq) b) fun a=>cnd (decide (((a.map A7).length:Int)=0)) (some (⟨0,0,0,0,[]⟩,false))<|idx a (aA .i64 (((a.map A7).length:Int)-1)) fun c=>some (c,true)
def Pc (n:Nat)(i:Ay)(a:(List A6))(c:(List A8)->Option (A8×Int)):Nat->Int×(List A8)->Option (A8×Int) |0,_=>none |d+1,b=>cnd (decide (b.1<((a.map A7).length:Int))) (idx a b.1 fun e=>cnd (decide (((e.fValues.map Ac).length:Int)<=i.fField)) (some (⟨0,0,ByteArray.empty⟩,6))<|idx a b.1 fun f=>idx f.fValues i.fField fun g=>app b.2 [g] 32 fun h=>(Pc n i a c d) ((aA .i64 (b.1+1)),h))<|c b.2
def Qd (n:Nat)(a:Ay)(h:Aq)(l:Int)(k:A6):Option (A8×Int):=cnd (decide (a.fOp=0)) (some (a.fValue,0))<|cnd (decide (a.fOp=3)) (bnd (Lb n (⟨h.fVars⟩:Aq) a.fVar) fun j=>some (⟨0,((j.map A7).length:Int),ByteArray.empty⟩,0))<|cnd (decide (a.fOp=4)) (bnd (Lb n (⟨h.fVars⟩:Aq) a.fVar) fun i=>Pc n a i (fun c=>bnd (Qo n a.fKind c a.fValue) fun d=>some (d.1,d.2)) n (0,[]))<|bnd (Yo n (⟨h.fVars⟩:Aq) a.fVar l k) fun b=>cnd (!(b.2)) (some (⟨0,0,ByteArray.empty⟩,10))<|cnd (decide (a.fOp=2)) (some (⟨0,b.1.fTime,ByteArray.empty⟩,0))<|cnd (decide (((b.1.fValues.map Ac).length:Int)<=a.fField)) (some (⟨0,0,ByteArray.empty⟩,6))<|idx b.1.fValues a.fField fun f=>bnd (H0 n f) fun e=>cnd (!decide (e=0)) (some (⟨0,0,ByteArray.empty⟩,e))<|idx b.1.fValues a.fField fun g=>some (g,0)
def Hx (n:Nat)(b:Bool):Option (Int):=cnd (b) (some 1)<|some (-1)
def Gl (n:Nat)(a:Int)(b:Bool):Option (Int):=cnd (b) (some 0)<|jon (Hx n)<|reg<|cnd (decide (a=10)) (Hx n (decide (a=10)))<|reg<|cnd (decide (a=11)) (Hx n (decide (a=11)))<|Hx n (decide (a=12))
def Tg (n:Nat)(a:Int):Option (Int):=jon (Gl n a)<|reg<|cnd (decide (a=5)) (Gl n a (decide (a=5)))<|reg<|cnd (decide (a=6)) (Gl n a (decide (a=6)))<|reg<|cnd (decide (a=7)) (Gl n a (decide (a=7)))<|Gl n a (decide (a=8))
def Fp (n:Nat)(a:(List Int))(e:Int)(c:Int)(b:Int->Option (Int))(d:Bool):Option (Int):=cnd (d) (some 9)<|b (aA .i64 (c+1))
def F4 (n:Nat)(a:(List Int))(i:Int)(b:Option (Int)):Nat->Int->Option (Int) |0,_=>none |d+1,c=>cnd (decide (c<((a.map aI).length:Int))) (bnd (Tg n i) fun e=>jon (Fp n a i c (F4 n a i b d))<|reg<|cnd (decide (0<=e)) (idx a c fun f=>cnd (!decide (f=e)) (Fp n a i c (F4 n a i b d) true)<|cnd (decide (i=9)) (idx a c fun g=>idx a 0 fun h=>Fp n a i c (F4 n a i b d) (!decide (g=h)))<|Fp n a i c (F4 n a i b d) false)<|cnd (decide (i=9)) (idx a c fun j=>idx a 0 fun k=>Fp n a i c (F4 n a i b d) (!decide (j=k)))<|Fp n a i c (F4 n a i b d) false)<|b
def Xn (n:Nat)(b:Int)(a:(List Int)):Option (Int):=F4 n a b (some 0) n 0
def Du (n:Nat)(a:Bool):Option (A8):=cnd (a) (some (⟨1,1,ByteArray.empty⟩))<|some (⟨1,0,ByteArray.empty⟩)
def Kf (n:Nat)(b:Int×Int×ByteArray):Option (A8):=some (⟨b.1,b.2.1,b.2.2⟩)
def Ke (n:Nat)(b:Int×Int×ByteArray):Option (A8):=some (⟨b.1,b.2.1,b.2.2⟩)
def Lj (n:Nat)(i:Int)(a:(List A8)):Option (A8):=cnd (decide (i=5)) (idx a 0 fun z=>idx a 1 fun y=>some (⟨0,(aA .i64 (z.fNum+y.fNum)),ByteArray.empty⟩))<|cnd (decide (i=6)) (idx a 0 fun x=>idx a 1 fun w=>some (⟨0,(aA .i64 (x.fNum-w.fNum)),ByteArray.empty⟩))<|cnd (decide (i=7)) (idx a 0 fun v=>idx a 1 fun u=>bnd (Du n (decide (v.fNum<u.fNum))) fun t=>some t)<|cnd (decide (i=8)) (idx a 0 fun r=>idx a 1 fun m=>bnd (Du n (decide (r.fNum<=m.fNum))) fun h=>some h)<|cnd (decide (i=9)) (idx a 0 fun b=>idx a 1 fun c=>bnd (Du n (decide (b.fKind=c.fKind) && (decide (b.fNum=c.fNum) && ((b.fText.toList == c.fText.toList) && true)))) fun j=>some j)<|cnd (decide (i=10)) (jon (Kf n)<|reg<|idx a 0 fun k=>cnd (decide (k.fNum=1)) (idx a 1 fun l=>bnd (Du n (decide (l.fNum=1))) fun d=>Kf n (d.fKind,d.fNum,d.fText))<|bnd (Du n false) fun e=>Kf n (e.fKind,e.fNum,e.fText))<|cnd (decide (i=11)) (jon (Ke n)<|reg<|idx a 0 fun o=>cnd (decide (o.fNum=1)) (bnd (Du n true) fun f=>Ke n (f.fKind,f.fNum,f.fText))<|idx a 1 fun p=>bnd (Du n (decide (p.fNum=1))) fun g=>Ke n (g.fKind,g.fNum,g.fText))<|idx a 0 fun q=>bnd (Du n (!decide (q.fNum=1))) fun s=>some s
def Pd (n:Nat)(b:Ay->Aq->Int->A6->Option (A8×Int))(i:A6)(k:Int)(l:Aq)(a:Ay)(d:(List A8)->(List Int)->Option (A8×Int)):Nat->Int×(List A8)×(List Int)->Option (A8×Int) |0,_=>none |f+1,c=>cnd (decide (c.1<((a.fArgs.map idA).length:Int))) (idxD Cb a.fArgs c.1 fun g=>bnd (b g (⟨l.fVars⟩:Aq) k i) fun e=>cnd (!decide (e.2=0)) (some (⟨0,0,ByteArray.empty⟩,e.2))<|app c.2.1 [e.1] 32 fun h=>app c.2.2 [e.1.fKind] 8 fun j=>(Pd n b i k l a d f) ((aA .i64 (c.1+1)),h,j))<|d c.2.1 c.2.2
def H6:Nat->Ay->Aq->Int->A6->Option (A8×Int) |0,_,_,_,_=>none |n+1,a,i,h,g=>cnd (decide (((a.fArgs.map idA).length:Int)=0)) (bnd (Qd n a (⟨i.fVars⟩:Aq) h g) fun f=>some (f.1,f.2))<|Pd n (H6 n) g h i a (fun b c=>bnd (Xn n a.fOp c) fun d=>cnd (!decide (d=0)) (some (⟨0,0,ByteArray.empty⟩,d))<|bnd (Lj n a.fOp b) fun e=>some (e,0)) n (0,[],[])
def Yp (n:Nat)(c:Ay)(f:Aq)(e:Int)(d:A6):Option (A8×Int):=bnd (G7 n c) fun b=>cnd (!decide (b=0)) (some (⟨0,0,ByteArray.empty⟩,b))<|bnd (H6 n c (⟨f.fVars⟩:Aq) e d) fun a=>some (a.1,a.2)
def Kg (n:Nat)(b:Bool):Option (Bool):=some b
def G4 (n:Nat)(f:Ay)(e:Aq)(d:Int)(c:A6):Option (Bool):=bnd (Yp n f (⟨e.fVars⟩:Aq) d c) fun a=>jon (Kg n)<|reg<|cnd (decide (a.2=0)) (bnd (Du n true) fun b=>Kg n (decide (a.1.fKind=b.fKind) && (decide (a.1.fNum=b.fNum) && ((a.1.fText.toList == b.fText.toList) && true))))<|Kg n false
structure Bm where
 fTime:Int
 fSource:Int
 fSeq:Int
deriving DecidableEq,Inhabited
def Bn (x:Bm):AV:=.agg [aI (x.fTime),aI (x.fSource),aI (x.fSeq)]
abbrev zxz (x:Bm):List AV:=[aI (x.fTime),aI (x.fSource),aI (x.fSeq)]
structure Bh where
 fVar:Int
 fRef:Bm
deriving DecidableEq,Inhabited
def B6 (x:Bh):AV:=.agg [aI (x.fVar),aI (x.fRef.fTime),aI (x.fRef.fSource),aI (x.fRef.fSeq)]
abbrev zl6 (x:Bh):List AV:=[aI (x.fVar),aI (x.fRef.fTime),aI (x.fRef.fSource),aI (x.fRef.fSeq)]
structure Aa where
 fBindings:(List Bh)
deriving DecidableEq,Inhabited
def Az (x:Aa):AV:=.agg [.sl 4 (x.fBindings.map B6)]
abbrev Mq (x:Aa):List AV:=[.sl 4 (x.fBindings.map B6)]
def Ll (n:Nat)(b:Bm)(a:Bm):Option (Int):=cnd (!decide (b.fTime=a.fTime)) (cnd (decide (b.fTime<a.fTime)) (some (-1))<|some 1)<|cnd (!decide (b.fSource=a.fSource)) (cnd (decide (b.fSource<a.fSource)) (some (-1))<|some 1)<|cnd (decide (b.fSeq<a.fSeq)) (some (-1))<|cnd (decide (a.fSeq<b.fSeq)) (some 1)<|some 0
def U6 (n:Nat)(b:Bh)(a:Bh):Option (Int):=bnd (Ll n (⟨b.fRef.fTime,b.fRef.fSource,b.fRef.fSeq⟩:Bm) (⟨a.fRef.fTime,a.fRef.fSource,a.fRef.fSeq⟩:Bm)) fun c=>cnd (!decide (c=0)) (some c)<|cnd (decide (b.fVar<a.fVar)) (some (-1))<|cnd (decide (a.fVar<b.fVar)) (some 1)<|some 0
def Jv (n:Nat)(a:Aa)(i:Aa)(b:Int)(e:Option (Int))(f:Int->Option (Int))(h:Bool):Option (Int):=cnd (h) (idx i.fBindings b fun c=>idx a.fBindings b fun d=>bnd (U6 n (⟨c.fVar,⟨c.fRef.fTime,c.fRef.fSource,c.fRef.fSeq⟩⟩:Bh) (⟨d.fVar,⟨d.fRef.fTime,d.fRef.fSource,d.fRef.fSeq⟩⟩:Bh)) fun g=>cnd (!decide (g=0)) (some g)<|f (aA .i64 (b+1)))<|e
def I1 (n:Nat)(a:Aa)(e:Aa)(b:Option (Int)):Nat->Int->Option (Int) |0,_=>none |d+1,c=>jon (Jv n a e c b (I1 n a e b d))<|reg<|cnd (decide (c<((e.fBindings.map B6).length:Int))) (Jv n a e c b (I1 n a e b d) (decide (c<((a.fBindings.map B6).length:Int))))<|Jv n a e c b (I1 n a e b d) false
def Kt (n:Nat)(b:Aa)(a:Aa):Option (Int):=I1 n a b (cnd (decide (((b.fBindings.map B6).length:Int)<((a.fBindings.map B6).length:Int))) (some (-1))<|cnd (decide (((a.fBindings.map B6).length:Int)<((b.fBindings.map B6).length:Int))) (some 1)<|some 0) n 0
structure Ap where
 fScope:Int
 fTime:Int
deriving DecidableEq,Inhabited
def Aj (x:Ap):AV:=.agg [aI (x.fScope),aI (x.fTime)]
abbrev zat (x:Ap):List AV:=[aI (x.fScope),aI (x.fTime)]
structure A5 where
 fState:Int
 fBindings:(List Bh)
 fStarts:(List Ap)
deriving DecidableEq,Inhabited
def Ai (x:A5):AV:=.agg [aI (x.fState),.sl 4 (x.fBindings.map B6),.sl 2 (x.fStarts.map Aj)]
abbrev C7 (x:A5):List AV:=[aI (x.fState),.sl 4 (x.fBindings.map B6),.sl 2 (x.fStarts.map Aj)]
def I0 (n:Nat)(a:A5)(g:A5)(e:Int)(b:Int->Option (Int))(c:Ap)(d:Ap)(f:Bool):Option (Int):=cnd (f) (some (-1))<|cnd (!(decide (c.fScope=d.fScope) && (decide (c.fTime=d.fTime) && true))) (some 1)<|b (aA .i64 (e+1))
def Jt (n:Nat)(a:A5)(h:A5)(b:Int)(f:Option (Int))(c:Int->Option (Int))(g:Bool):Option (Int):=cnd (g) (idx h.fStarts b fun d=>idx a.fStarts b fun e=>jon (I0 n a h b c d e)<|reg<|cnd (decide (d.fScope<e.fScope)) (I0 n a h b c d e true)<|cnd (decide (d.fScope=e.fScope)) (I0 n a h b c d e (decide (d.fTime<e.fTime)))<|I0 n a h b c d e false)<|f
def Hz (n:Nat)(a:A5)(e:A5)(b:Option (Int)):Nat->Int->Option (Int) |0,_=>none |d+1,c=>jon (Jt n a e c b (Hz n a e b d))<|reg<|cnd (decide (c<((e.fStarts.map Aj).length:Int))) (Jt n a e c b (Hz n a e b d) (decide (c<((a.fStarts.map Aj).length:Int))))<|Jt n a e c b (Hz n a e b d) false
def I7 (n:Nat)(b:A5)(a:A5):Option (Int):=cnd (!decide (b.fState=a.fState)) (cnd (decide (b.fState<a.fState)) (some (-1))<|some 1)<|bnd (Kt n (⟨b.fBindings⟩:Aa) (⟨a.fBindings⟩:Aa)) fun c=>cnd (!decide (c=0)) (some c)<|Hz n a b (cnd (decide (((b.fStarts.map Aj).length:Int)<((a.fStarts.map Aj).length:Int))) (some (-1))<|cnd (decide (((a.fStarts.map Aj).length:Int)<((b.fStarts.map Aj).length:Int))) (some 1)<|some 0) n 0
def L4 (n:Nat)(i:A5)(a:(List A5))(b:Int)(c:Bool):Option ((List A5)):=cnd (c) (some a)<|sls a 0 b fun d=>app ([]:List A5) d 56 fun e=>app e [i] 56 fun f=>sls a b ((a.map Ai).length:Int) fun g=>app f g 56 fun h=>some h
def L3 (n:Nat)(a:A5)(f:(List A5))(b:Int)(c:Int->Option ((List A5)))(d:Int->Option ((List A5)))(e:Bool):Option ((List A5)):=cnd (e) (d (aA .i64 (b+1)))<|c b
def Ig (n:Nat)(g:A5)(a:(List A5))(b:Int->Option ((List A5))):Nat->Int->Option ((List A5)) |0,_=>none |d+1,c=>jon (L3 n g a c b (Ig n g a b d))<|reg<|cnd (decide (c<((a.map Ai).length:Int))) (idx a c fun e=>bnd (I7 n e g) fun f=>L3 n g a c b (Ig n g a b d) (decide (f<0)))<|L3 n g a c b (Ig n g a b d) false
def Ls (n:Nat)(a:(List A5))(e:A5):Option ((List A5)):=Ig n e a (fun b=>jon (L4 n e a b)<|reg<|cnd (decide (b<((a.map Ai).length:Int))) (idx a b fun c=>bnd (I7 n c e) fun d=>L4 n e a b (decide (d=0)))<|L4 n e a b false) n 0
def Iv (n:Nat)(b:Bool):Option (Bool):=some b
def R6 (n:Nat)(a:Int):Option (Bool):=jon (Iv n)<|reg<|cnd (decide (0<=a)) (Iv n (decide (a<=5)))<|Iv n false
def Ha (n:Nat)(b:Bool):Option (Bool):=some b
def R5 (n:Nat)(a:Int)(b:A8):Option (Bool):=jon (Ha n)<|reg<|cnd (decide (b.fKind=0)) (Ha n true)<|cnd (!decide (a=1)) (cnd (!decide (a=2)) (Ha n (!decide (a=3)))<|Ha n false)<|Ha n false
def M4 (n:Nat)(d:Int)(b:A8):Option (Int):=bnd (Gc n b) fun a=>cnd (!decide (a=0)) (some a)<|bnd (R5 n d b) fun c=>cnd (!(c)) (some 9)<|some 0
def Yy (n:Nat)(b:Int)(a:A8):Option (A8):=cnd (decide (b=0)) (some (⟨0,0,ByteArray.empty⟩))<|some a
def Yl (n:Nat):Option (A8):=some (⟨0,0,ByteArray.empty⟩)
def Yk (n:Nat)(b:A8)(a:A8):Option (A8×A8×A8):=some (⟨0,(aA .i64 (b.fNum+a.fNum)),ByteArray.empty⟩,b,a)
def Yj (n:Nat)(b:A8)(a:A8):Option (A8×A8×A8):=some (⟨0,(min b.fNum a.fNum),ByteArray.empty⟩,b,a)
def Yi (n:Nat)(b:A8)(a:A8):Option (A8×A8×A8):=some (⟨0,(max b.fNum a.fNum),ByteArray.empty⟩,b,a)
def Yh (n:Nat)(a:A8):Option (A8×A8):=some (a,a)
def Yg (n:Nat)(a:A8):Option (A8×A8):=some (a,a)
def V4 (n:Nat)(a:Int)(c:A8)(b:A8):Option (A8):=natc a 0 (bnd (Yl n) fun i=>some i)<|natc a 1 (bndM 15 (Yk n c b) fun h=>some h.1)<|natc a 2 (bndM 15 (Yj n c b) fun g=>some g.1)<|natc a 3 (bndM 15 (Yi n c b) fun f=>some f.1)<|natc a 4 (bndM 15 (Yh n c) fun e=>some e.1)<|natc a 5 (bndM 15 (Yg n b) fun d=>some d.1)<|none
def Yz (n:Nat)(a:C1)(b:C1):Option (C1):=cnd (decide (a.fCount=0)) (some b)<|cnd (decide (b.fCount=0)) (some a)<|bnd (V4 n a.fKind a.fValue b.fValue) fun c=>some (⟨a.fKind,(aA .i64 (a.fCount+b.fCount)),c⟩)
def Z6 (n:Nat)(e:C1)(d:A8)(a:Int):Option (C1):=bnd (Yy n a d) fun c=>bnd (Yz n e (⟨a,1,c⟩:C1)) fun b=>some b
def Qc (n:Nat)(e:Int)(a:(List A8))(c:Int->Int->Int->Int->ByteArray->Option (C1)):Nat->Int×Int×Int×Int×Int×ByteArray->Option (C1) |0,_=>none |f+1,b=>cnd (decide (b.1<((a.map Ac).length:Int))) (idx a b.1 fun g=>bnd (Z6 n (⟨b.2.1,b.2.2.1,⟨b.2.2.2.1,b.2.2.2.2.1,b.2.2.2.2.2⟩⟩:C1) g e) fun d=>(Qc n e a c f) ((aA .i64 (b.1+1)),d.fKind,d.fCount,d.fValue.fKind,d.fValue.fNum,d.fValue.fText))<|c b.2.1 b.2.2.1 b.2.2.2.1 b.2.2.2.2.1 b.2.2.2.2.2
def Vd (n:Nat)(a:C1)(h:(List A8))(g:Int):Option (C1):=Qc n g h (fun b c d e f=>some (⟨b,c,⟨d,e,f⟩⟩)) n (0,a.fKind,a.fCount,a.fValue.fKind,a.fValue.fNum,a.fValue.fText)
def Lq (n:Nat)(a:C1)(b:Bool):Option (Int):=cnd (b) (some 2)<|reg<|cnd (decide (a.fCount=0)) (cnd (!((decide (a.fValue.fKind=0) && (decide (a.fValue.fNum=0) && ((a.fValue.fText.toList == ByteArray.empty.toList) && true))))) (some 3)<|some 0)<|cnd (decide (a.fKind=0)) (cnd (!((decide (a.fValue.fKind=0) && (decide (a.fValue.fNum=0) && ((a.fValue.fText.toList == ByteArray.empty.toList) && true))))) (some 3)<|some 0)<|reg<|cnd (decide (a.fKind=1)) (reg<|cnd (decide (a.fValue.fKind=0)) (cnd ((a.fValue.fText.toList == ByteArray.empty.toList)) (cnd (decide ((aA .i64 (0-(aA .i64 (a.fCount*1099511627776))))<=a.fValue.fNum)) (cnd (!(decide (a.fValue.fNum<=(aA .i64 (a.fCount*1099511627776))))) (some 3)<|some 0)<|some 3)<|some 3)<|some 3)<|reg<|bnd (Gc n a.fValue) fun d=>cnd (decide (d=0)) (bnd (R5 n a.fKind a.fValue) fun c=>cnd (!(c)) (some 3)<|some 0)<|some 3
def Vm (n:Nat)(a:C1):Option (Int):=bnd (R6 n a.fKind) fun b=>cnd (!(b)) (some 1)<|jon (Lq n a)<|reg<|cnd (decide (a.fCount<0)) (Lq n a true)<|Lq n a (decide (4096<a.fCount))
def Lo (n:Nat)(a:A8)(c:C1)(b:Bool):Option (A8×Int):=cnd (b) (some (a,0))<|some (c.fValue,0)
def Qu (n:Nat)(a:C1)(b:A8):Option (A8×Int):=bnd (Vm n a) fun d=>cnd (!decide (d=0)) (some (⟨0,0,ByteArray.empty⟩,d))<|bnd (M4 n a.fKind b) fun c=>cnd (!decide (c=0)) (some (⟨0,0,ByteArray.empty⟩,c))<|cnd (decide (a.fKind=0)) (some (⟨0,a.fCount,ByteArray.empty⟩,0))<|jon (Lo n b a)<|reg<|cnd (decide (a.fCount=0)) (Lo n b a (!decide (a.fKind=1)))<|Lo n b a false
def R7 (n:Nat)(h:A8)(a:(List A8))(g:Int)(b:Option (A8×Int)):Nat->Int->Option (A8×Int) |0,_=>none |d+1,c=>cnd (decide (c<((a.map Ac).length:Int))) (idx a c fun f=>bnd (M4 n g f) fun e=>cnd (!decide (e=0)) (some (⟨0,0,ByteArray.empty⟩,e))<|(R7 n h a g b d) (aA .i64 (c+1)))<|b
def Rq (n:Nat)(a:Int)(d:(List A8))(e:A8):Option (A8×Int):=bnd (R6 n a) fun f=>cnd (!(f)) (some (⟨0,0,ByteArray.empty⟩,1))<|cnd (decide (4096<((d.map Ac).length:Int))) (some (⟨0,0,ByteArray.empty⟩,5))<|R7 n e d a (bnd (Vd n (⟨a,0,⟨0,0,ByteArray.empty⟩⟩:C1) d a) fun c=>bnd (Qu n c e) fun b=>some (b.1,b.2)) n 0
def Wf (n:Nat)(a:Int):Option (Bool):=some (!decide (a=a))
def Cz (n:Nat)(b:Int)(a:Int):Option (Int):=bnd (Wf n b) fun d=>bnd (Wf n a) fun c=>cnd (d) (cnd (c) (some 0)<|some (-1))<|cnd (c) (some 1)<|cnd (decide (b<a)) (some (-1))<|cnd (decide (a<b)) (some 1)<|some 0
def Rw (n:Nat)(a:(List Int))(b:Option (Int)):Nat->Int->Option (Int) |0,_=>none |d+1,c=>cnd (decide (c<((a.map aI).length:Int))) (idx a c fun e=>cnd (!decide (e=0)) (some e)<|(Rw n a b d) (aA .i64 (c+1)))<|b
def Ep (n:Nat)(a:(List Int)):Option (Int):=Rw n a (some 0) n 0
def W6 (n:Nat)(b:Bm)(a:Bm):Option (Int):=bnd (Cz n b.fTime a.fTime) fun f=>bnd (Cz n b.fSource a.fSource) fun e=>bnd (Cz n b.fSeq a.fSeq) fun d=>bnd (Ep n ([f,e,d])) fun c=>some c
def Vj (n:Nat)(b:Bh)(a:Bh):Option (Int):=bnd (W6 n (⟨b.fRef.fTime,b.fRef.fSource,b.fRef.fSeq⟩:Bm) (⟨a.fRef.fTime,a.fRef.fSource,a.fRef.fSeq⟩:Bm)) fun e=>bnd (Cz n b.fVar a.fVar) fun d=>bnd (Ep n ([e,d])) fun c=>some c
def Pe (n:Nat)(a:(List Bh))(h:(List Bh))(c:Option (Int)):Nat->Int->Option (Int) |0,_=>none |f+1,b=>cnd (decide (b<((h.map B6).length:Int))) (idx h b fun d=>cnd (decide (((a.map B6).length:Int)<=b)) (some 1)<|idx a b fun e=>bnd (Vj n (⟨d.fVar,⟨d.fRef.fTime,d.fRef.fSource,d.fRef.fSeq⟩⟩:Bh) (⟨e.fVar,⟨e.fRef.fTime,e.fRef.fSource,e.fRef.fSeq⟩⟩:Bh)) fun g=>cnd (!decide (g=0)) (some g)<|(Pe n a h c f) (aA .i64 (b+1)))<|c
def Uh (n:Nat)(b:(List Bh))(a:(List Bh)):Option (Int):=Pe n a b (cnd (decide (((b.map B6).length:Int)<((a.map B6).length:Int))) (some (-1))<|some 0) n 0
def Ri (n:Nat)(c:Aa)(b:Aa):Option (Int):=bnd (Uh n c.fBindings b.fBindings) fun a=>some a
def Vs (n:Nat)(b:Ap)(a:Ap):Option (Int):=bnd (Cz n b.fScope a.fScope) fun e=>bnd (Cz n b.fTime a.fTime) fun d=>bnd (Ep n ([e,d])) fun c=>some c
def Nu (n:Nat)(a:(List Ap))(h:(List Ap))(c:Option (Int)):Nat->Int->Option (Int) |0,_=>none |d+1,b=>cnd (decide (b<((h.map Aj).length:Int))) (idx h b fun f=>cnd (decide (((a.map Aj).length:Int)<=b)) (some 1)<|idx a b fun g=>bnd (Vs n f g) fun e=>cnd (!decide (e=0)) (some e)<|(Nu n a h c d) (aA .i64 (b+1)))<|c
def Th (n:Nat)(b:(List Ap))(a:(List Ap)):Option (Int):=Nu n a b (cnd (decide (((b.map Aj).length:Int)<((a.map Aj).length:Int))) (some (-1))<|some 0) n 0
def Vx (n:Nat)(b:A5)(a:A5):Option (Int):=bnd (Cz n b.fState a.fState) fun f=>bnd (Ri n (⟨b.fBindings⟩:Aa) (⟨a.fBindings⟩:Aa)) fun e=>bnd (Th n b.fStarts a.fStarts) fun d=>bnd (Ep n ([f,e,d])) fun c=>some c
def F8 (n:Nat)(b:Bool):Option (Bool):=some b
def W3 (n:Nat)(a:A6):Option (Bool):=jon (F8 n)<|reg<|cnd (decide (0<=a.fTime)) (cnd (decide (a.fTime<=1099511627776)) (cnd (decide (0<=a.fSource)) (cnd (decide (a.fSource<8)) (cnd (decide (0<=a.fSeq)) (F8 n (decide (a.fSeq<=1099511627776)))<|F8 n false)<|F8 n false)<|F8 n false)<|F8 n false)<|F8 n false
def Ja (n:Nat)(a:A6):Option (Bm):=some (⟨a.fTime,a.fSource,a.fSeq⟩)
def Mt (n:Nat)(b:Bm)(a:Bm):Option (Int):=bnd (Cz n b.fTime a.fTime) fun f=>bnd (Cz n b.fSource a.fSource) fun e=>bnd (Cz n b.fSeq a.fSeq) fun d=>bnd (Ep n ([f,e,d])) fun c=>some c
def Mm (n:Nat)(b:Bh)(d:A6):Option (Bool):=bnd (Ja n d) fun a=>bnd (Mt n (⟨b.fRef.fTime,b.fRef.fSource,b.fRef.fSeq⟩:Bm) (⟨a.fTime,a.fSource,a.fSeq⟩:Bm)) fun c=>some (decide (0<=c))
def Oe (n:Nat)(e:A6)(a:(List Bh))(c:Option (Int)):Nat->Int->Option (Int) |0,_=>none |f+1,b=>cnd (decide (b<((a.map B6).length:Int))) (idx a b fun d=>bnd (Mm n (⟨d.fVar,⟨d.fRef.fTime,d.fRef.fSource,d.fRef.fSeq⟩⟩:Bh) e) fun g=>cnd (g) (some b)<|(Oe n e a c f) (aA .i64 (b+1)))<|c
def U0 (n:Nat)(a:(List Bh))(b:A6):Option (Int):=Oe n b a (some (-1)) n 0
def Tc (n:Nat)(c:(List Bh))(b:A6):Option (Bool):=bnd (U0 n c b) fun a=>some (decide (0<=a))
def Zy (n:Nat)(c:A5)(b:A6):Option (Bool):=bnd (Tc n c.fBindings b) fun a=>some a
def Mn (n:Nat)(c:A5)(b:A6):Option (Bool):=bnd (Zy n c b) fun a=>some a
def Og (n:Nat)(d:A6)(a:(List A5))(c:Option (Int)):Nat->Int->Option (Int) |0,_=>none |e+1,b=>cnd (decide (b<((a.map Ai).length:Int))) (idx a b fun f=>bnd (Mn n f d) fun g=>cnd (g) (some b)<|(Og n d a c e) (aA .i64 (b+1)))<|c
def U1 (n:Nat)(a:(List A5))(b:A6):Option (Int):=Og n b a (some (-1)) n 0
def Td (n:Nat)(c:(List A5))(b:A6):Option (Bool):=bnd (U1 n c b) fun a=>some (decide (0<=a))
def Wk (n:Nat)(d:(List A5))(a:A6):Option (Int):=bnd (W3 n a) fun c=>cnd (!(c)) (some 2)<|bnd (Td n d a) fun b=>cnd (b) (some 14)<|some 0
attribute [irreducible] Kh Ej Fy I8 Ku Gs C9 Gv Kv Kw I9 E5 L6 I5 Dt Fv Gq Mc Mf Mg J5 Hd Ca Mh Mi J6 E7 Lm Ir Iu Df Dw Dx Ia Gt Ki Kj Kk Il K5 K4 Hx Gl Fp Kf Ke Kg Jv I0 Jt L4 L3 Iv Ha Lq Lo F8
def Vy (n:Nat)(a:Int):Option (Bool):=some (!decide (a=a))
def F9 (n:Nat)(b:Int)(a:Int):Option (Int):=bnd (Vy n b) fun d=>bnd (Vy n a) fun c=>cnd (d) (cnd (c) (some 0)<|some (-1))<|cnd (c) (some 1)<|cnd (decide (b<a)) (some (-1))<|cnd (decide (a<b)) (some 1)<|some 0
def Rs (n:Nat)(a:(List Int))(b:Option (Int)):Nat->Int->Option (Int) |0,_=>none |d+1,c=>cnd (decide (c<((a.map aI).length:Int))) (idx a c fun e=>cnd (!decide (e=0)) (some e)<|(Rs n a b d) (aA .i64 (c+1)))<|b
def Gf (n:Nat)(a:(List Int)):Option (Int):=Rs n a (some 0) n 0
def Vw (n:Nat)(b:Bm)(a:Bm):Option (Int):=bnd (F9 n b.fTime a.fTime) fun f=>bnd (F9 n b.fSource a.fSource) fun e=>bnd (F9 n b.fSeq a.fSeq) fun d=>bnd (Gf n ([f,e,d])) fun c=>some c
def Uu (n:Nat)(b:Bh)(a:Bh):Option (Int):=bnd (Vw n b.fRef a.fRef) fun e=>bnd (F9 n b.fVar a.fVar) fun d=>bnd (Gf n ([e,d])) fun c=>some c
def Oj (n:Nat)(a:(List Bh))(h:(List Bh))(c:Option (Int)):Nat->Int->Option (Int) |0,_=>none |d+1,b=>cnd (decide (b<((h.map B6).length:Int))) (idx h b fun f=>cnd (decide (((a.map B6).length:Int)<=b)) (some 1)<|idx a b fun g=>bnd (Uu n f g) fun e=>cnd (!decide (e=0)) (some e)<|(Oj n a h c d) (aA .i64 (b+1)))<|c
def U3 (n:Nat)(b:(List Bh))(a:(List Bh)):Option (Int):=Oj n a b (cnd (decide (((b.map B6).length:Int)<((a.map B6).length:Int))) (some (-1))<|some 0) n 0
def Vi (n:Nat)(c:Aa)(b:Aa):Option (Int):=bnd (U3 n c.fBindings b.fBindings) fun a=>some a
def Vh (n:Nat)(b:Ap)(a:Ap):Option (Int):=bnd (F9 n b.fScope a.fScope) fun e=>bnd (F9 n b.fTime a.fTime) fun d=>bnd (Gf n ([e,d])) fun c=>some c
def Nr (n:Nat)(a:(List Ap))(h:(List Ap))(c:Option (Int)):Nat->Int->Option (Int) |0,_=>none |d+1,b=>cnd (decide (b<((h.map Aj).length:Int))) (idx h b fun f=>cnd (decide (((a.map Aj).length:Int)<=b)) (some 1)<|idx a b fun g=>bnd (Vh n f g) fun e=>cnd (!decide (e=0)) (some e)<|(Nr n a h c d) (aA .i64 (b+1)))<|c
def Te (n:Nat)(b:(List Ap))(a:(List Ap)):Option (Int):=Nr n a b (cnd (decide (((b.map Aj).length:Int)<((a.map Aj).length:Int))) (some (-1))<|some 0) n 0
def Z7 (n:Nat)(b:A5)(a:A5):Option (Int):=bnd (F9 n b.fState a.fState) fun f=>bnd (Vi n (⟨b.fBindings⟩:Aa) (⟨a.fBindings⟩:Aa)) fun e=>bnd (Te n b.fStarts a.fStarts) fun d=>bnd (Gf n ([f,e,d])) fun c=>some c
noncomputable section
abbrev zl0 {n a b}:=li (Rs n a b) (fun c=>⟨[(3,aI 0),(6,.sl 1 (a.map aI)),(7,aI (((a.map aI).length:Int))),(8,aI c)],[]⟩) fun _ _=>Rs.eq_2 ..
abbrev z41 {n d a b}:=li (Oj n d a b) (fun c=>⟨[(0,.sl 4 (a.map B6)),(1,.sl 4 (d.map B6)),(2,.fn 130 []),(11,.sl 4 (a.map B6)),(12,aI (((a.map B6).length:Int))),(13,aI c)],[]⟩) fun _ _=>Oj.eq_2 ..
abbrev z1p {n d a b}:=li (Nr n d a b) (fun c=>⟨[(0,.sl 2 (a.map Aj)),(1,.sl 2 (d.map Aj)),(2,.fn 204 []),(11,.sl 2 (a.map Aj)),(12,aI (((a.map Aj).length:Int))),(13,aI c)],[]⟩) fun _ _=>Nr.eq_2 ..
attribute [instance] zl0 z41 z1p
def zby (r:Bool):AV:=.bool (r)
theorem zfs {n b r}(a:Vy n b=some r):Con E0d true 207 [aI b] (zby r):=by
 unfold Vy at a;refine aB _ aG rfl (B0 aG rfl rfl) rfl (aE rfl) ?_;repeat' first
  |refine aC ?_;conv=>whnf
  |exact aD a
def Vq (r:Int):AV:=aI (r)
theorem Z0 {n d c r}(b:F9 n d c=some r):Con E0d true 133 [aI d,aI c] (Vq r):=by
 unfold F9 at b;refine aB _ aH rfl (B0 aH rfl rfl) rfl (aE rfl) ?_;repeat' first
  |refine aC ?_;conv=>whnf
  |refine A1.o b (fun b=>?_) fun b=>?_
  |refine aF b zby (fun a h=>zfs h) (fun a b=>?_)
  |exact aD b
def Wj (r:Int):AV:=aI (r)
theorem Zh {n b r}(a:Gf n b=some r):Con E0d true 131 [.sl 1 (b.map aI)] (Wj r):=by
 unfold Gf at a;refine aB _ aJ rfl (B0 aJ rfl rfl) rfl (aE rfl) ?_;repeat' first
  |refine aC ?_;conv=>whnf
  |refine A1.o a (fun a=>?_) fun a=>?_
  |refine IdxX.A a fun x a=>?_
  |exact ⟨_,a,LeX.a []⟩
  |refine Av.I a (LeX.a []) fun m v a=>?_
  |exact aD a
def zad (r:Int):AV:=aI (r)
theorem zdf {n d c r}(b:Vw n d c=some r):Con E0d true 132 [Bn d,Bn c] (zad r):=by
 unfold Vw at b;refine aB _ aK rfl (B0 aK rfl rfl) rfl (aE rfl) ?_;repeat' first
  |refine aC ?_;conv=>whnf
  |refine aF b Vq (fun a h=>Z0 h) (fun a b=>?_)
  |refine aF b Wj (fun a h=>Zh h) (fun a b=>?_)
  |refine AndA ?_
  |exact aD b
def z2e (r:Int):AV:=aI (r)
theorem z8x {n d c r}(b:Uu n d c=some r):Con E0d true 130 [B6 d,B6 c] (z2e r):=by
 unfold Uu at b;refine aB _ aL rfl (B0 aL rfl rfl) rfl (aE rfl) ?_;repeat' first
  |refine aC ?_;conv=>whnf
  |refine aF b zad (fun a h=>zdf h) (fun a b=>?_)
  |refine aF b Vq (fun a h=>Z0 h) (fun a b=>?_)
  |refine aF b Wj (fun a h=>Zh h) (fun a b=>?_)
  |refine AndA ?_
  |exact aD b
def z1a (r:Int):AV:=aI (r)
theorem z5s {n d c r}(b:U3 n d c=some r):Con E0d true 129 [.sl 4 (d.map B6),.sl 4 (c.map B6),.fn 130 []] (z1a r):=by
 unfold U3 at b;refine aB _ aM rfl (B0 aM rfl rfl) rfl (aE rfl) ?_;repeat' first
  |refine aC ?_;conv=>whnf
  |refine A1.o b (fun b=>?_) fun b=>?_
  |refine IdxX.A b fun x b=>?_
  |refine aF b z2e (fun a h=>z8x h) (fun a b=>?_)
  |exact ⟨_,b,LeX.a []⟩
  |refine Av.I b (LeX.a []) fun m v b=>?_
  |exact aD b
def z5v (r:Int):AV:=aI (r)
theorem z2a {n d c r}(b:Vi n d c=some r):Con E0d true 64 [Az d,Az c] (z5v r):=by
 unfold Vi at b;refine aB _ aR rfl (B0 aR rfl rfl) rfl (aE rfl) ?_;repeat' first
  |refine aC ?_;conv=>whnf
  |refine aF b z1a (fun a h=>z5s h) (fun a b=>?_)
  |exact aD b
def z5u (r:Int):AV:=aI (r)
theorem zar {n d c r}(b:Vh n d c=some r):Con E0d true 204 [Aj d,Aj c] (z5u r):=by
 unfold Vh at b;refine aB _ aN rfl (B0 aN rfl rfl) rfl (aE rfl) ?_;repeat' first
  |refine aC ?_;conv=>whnf
  |refine aF b Vq (fun a h=>Z0 h) (fun a b=>?_)
  |refine aF b Wj (fun a h=>Zh h) (fun a b=>?_)
  |refine AndA ?_
  |exact aD b
def z0w (r:Int):AV:=aI (r)
theorem z27 {n d c r}(b:Te n d c=some r):Con E0d true 203 [.sl 2 (d.map Aj),.sl 2 (c.map Aj),.fn 204 []] (z0w r):=by
 unfold Te at b;refine aB _ aO rfl (B0 aO rfl rfl) rfl (aE rfl) ?_;repeat' first
  |refine aC ?_;conv=>whnf
  |refine A1.o b (fun b=>?_) fun b=>?_
  |refine IdxX.A b fun x b=>?_
  |refine aF b z5u (fun a h=>zar h) (fun a b=>?_)
  |exact ⟨_,b,LeX.a []⟩
  |refine Av.I b (LeX.a []) fun m v b=>?_
  |exact aD b
def zg3 (r:Int):AV:=aI (r)
theorem zcg {n d c r}(b:Z7 n d c=some r):Con E0d true 125 [Ai d,Ai c] (zg3 r):=by
 unfold Z7 at b;refine aB _ aP rfl (B0 aP rfl rfl) rfl (aE rfl) ?_;repeat' first
  |refine aC ?_;conv=>whnf
  |refine aF b Vq (fun a h=>Z0 h) (fun a b=>?_)
  |refine aF b z5v (fun a h=>z2a h) (fun a b=>?_)
  |refine aF b z0w (fun a h=>z27 h) (fun a b=>?_)
  |refine aF b Wj (fun a h=>Zh h) (fun a b=>?_)
  |refine AndA ?_
  |exact aD b
end
end Go.Proofs.YthbogefcfhmpgaaGreat
