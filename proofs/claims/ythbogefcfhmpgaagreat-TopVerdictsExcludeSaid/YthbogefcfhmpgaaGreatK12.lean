/- What some functions compute, over plain values. -/
import Derived.Test.YthbogefcfhmpgaaGreatK11
set_option linter.unusedVariables false
set_option linter.unusedSimpArgs false
set_option maxRecDepth 100000
set_option maxHeartbeats 8000000
namespace Go.Proofs.YthbogefcfhmpgaaGreat
open Go.RowKit
open IntKind renaming wrap->aA
open Con renaming walk->aB
open AW renaming step->aC
open RetX renaming oB->aD
open Or renaming inr->aE
open Ab renaming o->aF
open Tryz renaming func207->aG,func133->aH,func131->aJ,func132->aK,func130->aL,func129->aM,func204->aN,func203->aO,func125->aP,func64->aR
structure A9 where
 fKind:Int
 fNum:Int
 fText:ByteArray
deriving DecidableEq,Inhabited
def Af (x:A9):AV:=.agg [aI (x.fKind),aI (x.fNum),.str (x.fText)]
abbrev Ci (x:A9):List AV:=[aI (x.fKind),aI (x.fNum),.str (x.fText)]
structure B2 where
 fOp:Int
 fArgs:(List AV)
 fVar:Int
 fField:Int
 fKind:Int
 fValue:A9
deriving Inhabited
def Ay (x:B2):AV:=.agg [aI (x.fOp),.sl 8 (x.fArgs.map idA),aI (x.fVar),aI (x.fField),aI (x.fKind),aI (x.fValue.fKind),aI (x.fValue.fNum),.str (x.fValue.fText)]
abbrev D2 (x:B2):List AV:=[aI (x.fOp),.sl 8 (x.fArgs.map idA),aI (x.fVar),aI (x.fField),aI (x.fKind),aI (x.fValue.fKind),aI (x.fValue.fNum),.str (x.fValue.fText)]
def C8:AV->Option B2 |.agg [.int .i64 h,.sl 8 g,.int .i64 f,.int .i64 e,.int .i64 d,.int .i64 c,.int .i64 b,.str a]=>some ⟨h,g,f,e,d,⟨c,b,a⟩⟩ |_=>none
theorem D0 (a:AV)(y:B2)(h:C8 a=some y):a=Ay y:=by
 unfold C8 at h;split at h
 ·injection h with h;subst h;simp [Ay,aI,Sw]
 ·cases h
theorem Mn (y:B2):C8 (Ay y)=some y:=by simp [C8,Ay,aI,Sw]
def Ky (n:Nat)(b:B2->Int->Option (Int))(a:Int)(i:B2)(c:Int×Int)(d:Int->Option (Int))(e:(Int×Int)->Option (Int))(f:Bool):Option (Int):=cnd (f) (idxD C8 i.fArgs c.2 fun g=>bnd (b g a) fun h=>e ((aA .i64 (c.1+h)),(aA .i64 (c.2+1))))<|d c.1
def I5 (n:Nat)(b:B2->Int->Option (Int))(a:Int)(f:B2)(c:Int->Option (Int)):Nat->Int×Int->Option (Int) |0,_=>none |e+1,d=>jon (Ky n b a f d c (I5 n b a f c e))<|reg<|cnd (decide (d.2<((f.fArgs.map idA).length:Int))) (Ky n b a f d c (I5 n b a f c e) (decide (d.1<=a)))<|Ky n b a f d c (I5 n b a f c e) false
def G3:Nat->B2->Int->Option (Int) |0,_,_=>none |n+1,c,a=>I5 n (G3 n) a c (fun b=>some b) n (1,0)
def Ph (n:Nat)(b:B2->Option (Int))(a:B2)(d:Int->Option (Int)):Nat->Int×Int->Option (Int) |0,_=>none |e+1,c=>cnd (decide (c.2<((a.fArgs.map idA).length:Int))) (idxD C8 a.fArgs c.2 fun f=>bnd (b f) fun g=>(Ph n b a d e) ((max c.1 g),(aA .i64 (c.2+1))))<|d c.1
def G2:Nat->B2->Option (Int) |0,_=>none |n+1,a=>Ph n (G2 n) a (fun b=>some (aA .i64 (b+1))) n (0,0)
def Eh (n:Nat)(b:Bool):Option (Int):=cnd (b) (some 2)<|some (-1)
def Fu (n:Nat)(a:Int)(b:Bool):Option (Int):=cnd (b) (some 0)<|cnd (decide (a=12)) (some 1)<|jon (Eh n)<|reg<|cnd (decide (a=5)) (Eh n (decide (a=5)))<|reg<|cnd (decide (a=6)) (Eh n (decide (a=6)))<|reg<|cnd (decide (a=7)) (Eh n (decide (a=7)))<|reg<|cnd (decide (a=8)) (Eh n (decide (a=8)))<|reg<|cnd (decide (a=9)) (Eh n (decide (a=9)))<|reg<|cnd (decide (a=10)) (Eh n (decide (a=10)))<|Eh n (decide (a=11))
def Ur (n:Nat)(a:Int):Option (Int):=jon (Fu n a)<|reg<|cnd (decide (a=0)) (Fu n a (decide (a=0)))<|reg<|cnd (decide (a=1)) (Fu n a (decide (a=1)))<|reg<|cnd (decide (a=2)) (Fu n a (decide (a=2)))<|reg<|cnd (decide (a=3)) (Fu n a (decide (a=3)))<|Fu n a (decide (a=4))
def I7 (n:Nat)(b:Bool)(c:Bool):Option (Bool×Bool):=some (c,b)
def L9 (n:Nat)(a:Int)(b:Bool):Option (Bool×Bool):=jon (I7 n b)<|reg<|cnd (b) (I7 n b true)<|cnd (decide (a=2)) (I7 n b true)<|I7 n b (decide (a=3))
def Uz (n:Nat)(a:Int):Option (Bool×Bool):=jon (L9 n a)<|reg<|cnd (decide (a=1)) (L9 n a true)<|L9 n a (decide (a=4))
def H0 (n:Nat)(a:A9):Option (Int):=cnd (decide (a.fKind<0)) (some 1)<|cnd (decide (2<a.fKind)) (some 1)<|cnd (decide (a.fKind=2)) (cnd (!decide (a.fNum=0)) (some 3)<|cnd (decide (64<((a.fText.size:Nat):Int))) (some 13)<|some 0)<|cnd (!(a.fText.toList == ByteArray.empty.toList)) (some 3)<|cnd (decide (a.fKind=1)) (cnd (decide (a.fNum<0)) (some 2)<|cnd (decide (1<a.fNum)) (some 2)<|cnd (decide (a.fNum<(-1099511627776))) (some 2)<|cnd (decide (1099511627776<a.fNum)) (some 2)<|some 0)<|cnd (decide (a.fNum<(-1099511627776))) (some 2)<|cnd (decide (1099511627776<a.fNum)) (some 2)<|some 0
def Gn (n:Nat)(b:Bool):Option (Bool):=some b
def Lw (n:Nat)(a:Int)(b:A9):Option (Bool):=jon (Gn n)<|reg<|cnd (decide (b.fKind=0)) (Gn n true)<|cnd (decide (a=0)) (Gn n true)<|cnd (decide (a=4)) (Gn n true)<|Gn n (decide (a=5))
def Cc (n:Nat)(b:Bool):Option (Int):=cnd (b) (some 3)<|some 0
def Gu (n:Nat)(a:B2)(d:Bool×Bool)(b:Bool)(c:Bool):Option (Int):=cnd (c) (some 9)<|jon (Cc n)<|reg<|cnd (!(d.1)) (cnd (!decide (a.fVar=0)) (Cc n true)<|cnd (!(d.2)) (cnd (!decide (a.fField=0)) (Cc n true)<|cnd (!(decide (a.fOp=4))) (cnd (!decide (a.fKind=0)) (Cc n true)<|cnd (!(b)) (Cc n (!(decide (a.fValue.fKind=0) && (decide (a.fValue.fNum=0) && ((a.fValue.fText.toList == ByteArray.empty.toList) && true)))))<|Cc n false)<|cnd (!(b)) (Cc n (!(decide (a.fValue.fKind=0) && (decide (a.fValue.fNum=0) && ((a.fValue.fText.toList == ByteArray.empty.toList) && true)))))<|Cc n false)<|cnd (!(decide (a.fOp=4))) (cnd (!decide (a.fKind=0)) (Cc n true)<|cnd (!(b)) (Cc n (!(decide (a.fValue.fKind=0) && (decide (a.fValue.fNum=0) && ((a.fValue.fText.toList == ByteArray.empty.toList) && true)))))<|Cc n false)<|cnd (!(b)) (Cc n (!(decide (a.fValue.fKind=0) && (decide (a.fValue.fNum=0) && ((a.fValue.fText.toList == ByteArray.empty.toList) && true)))))<|Cc n false)<|cnd (!(d.2)) (cnd (!decide (a.fField=0)) (Cc n true)<|cnd (!(decide (a.fOp=4))) (cnd (!decide (a.fKind=0)) (Cc n true)<|cnd (!(b)) (Cc n (!(decide (a.fValue.fKind=0) && (decide (a.fValue.fNum=0) && ((a.fValue.fText.toList == ByteArray.empty.toList) && true)))))<|Cc n false)<|cnd (!(b)) (Cc n (!(decide (a.fValue.fKind=0) && (decide (a.fValue.fNum=0) && ((a.fValue.fText.toList == ByteArray.empty.toList) && true)))))<|Cc n false)<|cnd (!(decide (a.fOp=4))) (cnd (!decide (a.fKind=0)) (Cc n true)<|cnd (!(b)) (Cc n (!(decide (a.fValue.fKind=0) && (decide (a.fValue.fNum=0) && ((a.fValue.fText.toList == ByteArray.empty.toList) && true)))))<|Cc n false)<|cnd (!(b)) (Cc n (!(decide (a.fValue.fKind=0) && (decide (a.fValue.fNum=0) && ((a.fValue.fText.toList == ByteArray.empty.toList) && true)))))<|Cc n false
def La (n:Nat)(a:B2)(d:Bool×Bool)(b:Bool)(_:Unit):Option (Int):=jon (Gu n a d b)<|reg<|cnd (decide (a.fOp=4)) (bnd (Lw n a.fKind a.fValue) fun c=>cnd (!(c)) (Gu n a d b true)<|cnd (decide (a.fKind=1)) (Gu n a d b (!(decide (a.fValue.fKind=0) && (decide (a.fValue.fNum=0) && ((a.fValue.fText.toList == ByteArray.empty.toList) && true)))))<|Gu n a d b false)<|Gu n a d b false
def Lb (n:Nat)(a:B2)(d:Bool×Bool)(b:Bool):Option (Int):=jon (La n a d b)<|reg<|cnd (b) (bnd (H0 n a.fValue) fun c=>cnd (!decide (c=0)) (some c)<|La n a d b ())<|La n a d b ()
def I8 (n:Nat)(a:B2)(c:Bool×Bool)(b:Bool):Option (Int):=cnd (b) (some 1)<|jon (Lb n a c)<|reg<|cnd (decide (a.fOp=4)) (Lb n a c true)<|Lb n a c (decide (a.fOp=0))
def E7 (n:Nat)(a:B2)(c:Bool×Bool)(b:Bool):Option (Int):=cnd (b) (some 2)<|jon (I8 n a c)<|reg<|cnd (decide (a.fOp=4)) (cnd (decide (a.fKind<1)) (I8 n a c true)<|I8 n a c (decide (5<a.fKind)))<|I8 n a c false
def V0 (n:Nat)(a:B2):Option (Int):=bnd (Ur n a.fOp) fun c=>cnd (decide (c<0)) (some 1)<|cnd (!decide (((a.fArgs.map idA).length:Int)=c)) (some 15)<|bnd (Uz n a.fOp) fun b=>jon (E7 n a b)<|reg<|cnd (b.1) (cnd (decide (a.fVar<0)) (E7 n a b true)<|cnd (decide (16<=a.fVar)) (E7 n a b true)<|cnd (b.2) (cnd (decide (a.fField<0)) (E7 n a b true)<|E7 n a b (decide (8<=a.fField)))<|E7 n a b false)<|cnd (b.2) (cnd (decide (a.fField<0)) (E7 n a b true)<|E7 n a b (decide (8<=a.fField)))<|E7 n a b false
def Pg (n:Nat)(b:B2->Option (Int))(a:B2)(c:Option (Int)):Nat->Int->Option (Int) |0,_=>none |e+1,d=>cnd (decide (d<((a.fArgs.map idA).length:Int))) (idxD C8 a.fArgs d fun g=>bnd (b g) fun f=>cnd (!decide (f=0)) (some f)<|(Pg n b a c e) (aA .i64 (d+1)))<|c
def Gz:Nat->B2->Option (Int) |0,_=>none |n+1,b=>bnd (V0 n b) fun a=>cnd (!decide (a=0)) (some a)<|Pg n (Gz n) b (some 0) n 0
def G4 (n:Nat)(a:B2):Option (Int):=bnd (G3 n a 64) fun d=>cnd (decide (64<d)) (some 5)<|bnd (G2 n a) fun c=>cnd (decide (12<c)) (some 12)<|bnd (Gz n a) fun b=>some b
structure Ba where
 fScope:Int
 fType:Int
 fVar:Int
 fCond:B2
deriving Inhabited
def B7 (x:Ba):AV:=.agg [aI (x.fScope),aI (x.fType),aI (x.fVar),aI (x.fCond.fOp),.sl 8 (x.fCond.fArgs.map idA),aI (x.fCond.fVar),aI (x.fCond.fField),aI (x.fCond.fKind),aI (x.fCond.fValue.fKind),aI (x.fCond.fValue.fNum),.str (x.fCond.fValue.fText)]
abbrev Wx (x:Ba):List AV:=[aI (x.fScope),aI (x.fType),aI (x.fVar),aI (x.fCond.fOp),.sl 8 (x.fCond.fArgs.map idA),aI (x.fCond.fVar),aI (x.fCond.fField),aI (x.fCond.fKind),aI (x.fCond.fValue.fKind),aI (x.fCond.fValue.fNum),.str (x.fCond.fValue.fText)]
structure Dh where
 fGuards:(List Ba)
deriving Inhabited
def Ao (x:Dh):AV:=.agg [.sl 11 (x.fGuards.map B7)]
structure C3 where
 fScope:Int
 fSpan:Int
deriving DecidableEq,Inhabited
def Bw (x:C3):AV:=.agg [aI (x.fScope),aI (x.fSpan)]
abbrev z8y (x:C3):List AV:=[aI (x.fScope),aI (x.fSpan)]
structure Ag where
 fFrom:Int
 fTo:Int
 fVar:Int
 fType:Int
 fCond:B2
 fOpens:(List Int)
 fCloses:(List Int)
 fChecks:(List AV)
 fLimits:(List C3)
 fInside:(List Int)
deriving Inhabited
def Ac (x:Ag):AV:=.agg [aI (x.fFrom),aI (x.fTo),aI (x.fVar),aI (x.fType),aI (x.fCond.fOp),.sl 8 (x.fCond.fArgs.map idA),aI (x.fCond.fVar),aI (x.fCond.fField),aI (x.fCond.fKind),aI (x.fCond.fValue.fKind),aI (x.fCond.fValue.fNum),.str (x.fCond.fValue.fText),.sl 1 (x.fOpens.map aI),.sl 1 (x.fCloses.map aI),.sl 8 (x.fChecks.map idA),.sl 2 (x.fLimits.map Bw),.sl 1 (x.fInside.map aI)]
abbrev Bs (x:Ag):List AV:=[aI (x.fFrom),aI (x.fTo),aI (x.fVar),aI (x.fType),aI (x.fCond.fOp),.sl 8 (x.fCond.fArgs.map idA),aI (x.fCond.fVar),aI (x.fCond.fField),aI (x.fCond.fKind),aI (x.fCond.fValue.fKind),aI (x.fCond.fValue.fNum),.str (x.fCond.fValue.fText),.sl 1 (x.fOpens.map aI),.sl 1 (x.fCloses.map aI),.sl 8 (x.fChecks.map idA),.sl 2 (x.fLimits.map Bw),.sl 1 (x.fInside.map aI)]
structure Ad where
 fVars:Int
 fScopes:Int
 fStates:(List Dh)
 fEdges:(List Ag)
deriving Inhabited
def Bh (x:Ad):AV:=.agg [aI (x.fVars),aI (x.fScopes),.sl 1 (x.fStates.map Ao),.sl 17 (x.fEdges.map Ac)]
abbrev B1 (x:Ad):List AV:=[aI (x.fVars),aI (x.fScopes),.sl 1 (x.fStates.map Ao),.sl 17 (x.fEdges.map Ac)]
def Ll (n:Nat)(b:Bool):Option (Bool):=some b
def D9 (n:Nat)(a:Int)(b:Int):Option (Bool):=jon (Ll n)<|reg<|cnd (decide (a<0)) (Ll n true)<|Ll n (decide (b<a))
def Oy (n:Nat)(a:(List Ba))(h:Ad)(c:Int)(b:Option (Int)):Nat->Int->Option (Int) |0,_=>none |e+1,d=>cnd (decide (d<c)) (idx a d fun f=>idx a c fun g=>cnd (decide (f.fScope=g.fScope)) (some 7)<|(Oy n a h c b e) (aA .i64 (d+1)))<|b
def I3 (n:Nat)(a:(List Ba))(g:Ad)(b:Int)(c:Int->Option (Int))(e:Bool):Option (Int):=cnd (e) (some 2)<|Oy n a g b (idx a b fun f=>bnd (G4 n f.fCond) fun d=>cnd (!decide (d=0)) (some d)<|c (aA .i64 (b+1))) n 0
def Fo (n:Nat)(a:(List Ba))(i:Ad)(b:Option (Int)):Nat->Int->Option (Int) |0,_=>none |d+1,c=>cnd (decide (c<((a.map B7).length:Int))) (jon (I3 n a i c (Fo n a i b d))<|reg<|idx a c fun e=>bnd (D9 n e.fScope (aA .i64 (i.fScopes-1))) fun f=>cnd (f) (I3 n a i c (Fo n a i b d) true)<|idx a c fun g=>bnd (D9 n g.fType 15) fun h=>cnd (h) (I3 n a i c (Fo n a i b d) true)<|idx a c fun j=>bnd (D9 n j.fVar (aA .i64 (i.fVars-1))) fun k=>I3 n a i c (Fo n a i b d) k)<|b
def Ue (n:Nat)(b:Ad)(a:(List Ba)):Option (Int):=cnd (decide (64<((a.map B7).length:Int))) (some 5)<|Fo n a b (some 0) n 0
def Ox (n:Nat)(h:Int)(a:(List Int))(c:Int)(b:Option (Int)):Nat->Int->Option (Int) |0,_=>none |e+1,d=>cnd (decide (d<c)) (idx a d fun f=>idx a c fun g=>cnd (decide (f=g)) (some 7)<|(Ox n h a c b e) (aA .i64 (d+1)))<|b
def Ki (n:Nat)(g:Int)(a:(List Int))(c:Option (Int)):Nat->Int->Option (Int) |0,_=>none |d+1,b=>cnd (decide (b<((a.map aI).length:Int))) (idx a b fun e=>bnd (D9 n e (aA .i64 (g-1))) fun f=>cnd (f) (some 2)<|Ox n g a b ((Ki n g a c d) (aA .i64 (b+1))) n 0)<|c
def Qb (n:Nat)(b:(List Int))(a:Int):Option (Int):=Ki n a b (some 0) n 0
def Ku (n:Nat)(a:Ag)(b:Option (Int)):Nat->Int->Option (Int) |0,_=>none |d+1,c=>cnd (decide (c<((a.fLimits.map Bw).length:Int))) (idx a.fLimits c fun e=>bnd (D9 n e.fSpan 1099511627776) fun f=>cnd (f) (some 2)<|(Ku n a b d) (aA .i64 (c+1)))<|b
def Gl (n:Nat)(a:Ag)(h:Ad)(b:(List Int))(c:Option (Int)):Nat->Int->Option (Int) |0,_=>none |f+1,d=>cnd (decide (d<4)) (idx ([a.fOpens,a.fCloses,a.fInside,b]:List (List Int)) d fun g=>bnd (Qb n g h.fScopes) fun e=>cnd (!decide (e=0)) (some e)<|(Gl n a h b c f) (aA .i64 (d+1)))<|c
def Pc (n:Nat)(a:Ag)(g:Ad)(c:(List Int)->Option (Int)):Nat->Int×(List Int)->Option (Int) |0,_=>none |d+1,b=>cnd (decide (b.1<((a.fLimits.map Bw).length:Int))) (idx a.fLimits b.1 fun e=>app b.2 [e.fScope] 8 fun f=>(Pc n a g c d) ((aA .i64 (b.1+1)),f))<|c b.2
def Qm (n:Nat)(c:Ad)(a:Ag):Option (Int):=Pc n a c (fun b=>frz 7026<|reg<|Gl n a c b (Ku n a (some 0) n 0) n 0) n (0,[])
def Pz (n:Nat)(a:Ag)(g:Ad)(b:Option (Int)):Nat->Int->Option (Int) |0,_=>none |d+1,c=>cnd (decide (c<((a.fChecks.map idA).length:Int))) (idxD C8 a.fChecks c fun f=>bnd (G4 n f) fun e=>cnd (!decide (e=0)) (some e)<|(Pz n a g b d) (aA .i64 (c+1)))<|b
def Dt (n:Nat)(f:Int)(a:Ag)(e:Ad)(b:Bool):Option (Int):=cnd (b) (some 2)<|cnd (decide (a.fFrom<f)) (some 14)<|bnd (G4 n a.fCond) fun d=>cnd (!decide (d=0)) (some d)<|cnd (decide (64<((a.fChecks.map idA).length:Int))) (some 5)<|Pz n a e (bnd (Qm n e a) fun c=>some c) n 0
def Ux (n:Nat)(h:Ad)(a:Ag)(i:Int):Option (Int):=jon (Dt n i a h)<|reg<|bnd (D9 n a.fFrom (aA .i64 (((h.fStates.map Ao).length:Int)-1))) fun b=>cnd (b) (Dt n i a h true)<|cnd (!decide (a.fTo=(-1))) (bnd (D9 n a.fTo (aA .i64 (((h.fStates.map Ao).length:Int)-1))) fun c=>cnd (c) (Dt n i a h true)<|bnd (D9 n a.fVar (aA .i64 (h.fVars-1))) fun d=>cnd (d) (Dt n i a h true)<|bnd (D9 n a.fType 15) fun e=>Dt n i a h e)<|bnd (D9 n a.fVar (aA .i64 (h.fVars-1))) fun f=>cnd (f) (Dt n i a h true)<|bnd (D9 n a.fType 15) fun g=>Dt n i a h g
def Pd (n:Nat)(a:Ad)(c:Option (Int)):Nat->Int×Int->Option (Int) |0,_=>none |d+1,b=>cnd (decide (b.2<((a.fEdges.map Ac).length:Int))) (idx a.fEdges b.2 fun f=>bnd (Ux n a f b.1) fun e=>cnd (!decide (e=0)) (some e)<|idx a.fEdges b.2 fun g=>(Pd n a c d) (g.fFrom,(aA .i64 (b.2+1))))<|c
def Pe (n:Nat)(a:Ad)(b:Option (Int)):Nat->Int->Option (Int) |0,_=>none |d+1,c=>cnd (decide (c<((a.fStates.map Ao).length:Int))) (idx a.fStates c fun f=>bnd (Ue n a f.fGuards) fun e=>cnd (!decide (e=0)) (some e)<|(Pe n a b d) (aA .i64 (c+1)))<|b
def Fq (n:Nat)(a:Ad)(b:Bool):Option (Int):=cnd (b) (some 5)<|Pe n a (Pd n a (some 0) n (0,0)) n 0
def Gm (n:Nat)(a:Ad)(b:Bool):Option (Int):=cnd (b) (some 2)<|jon (Fq n a)<|reg<|cnd (decide (((a.fStates.map Ao).length:Int)<1)) (Fq n a true)<|cnd (decide (256<((a.fStates.map Ao).length:Int))) (Fq n a true)<|Fq n a (decide (2048<((a.fEdges.map Ac).length:Int)))
def Fz (n:Nat)(a:Ad):Option (Int):=jon (Gm n a)<|reg<|bnd (D9 n a.fVars 16) fun b=>cnd (b) (Gm n a true)<|bnd (D9 n a.fScopes 64) fun c=>Gm n a c
def Sc (n:Nat)(b:B2->Option (Int×Int))(a:B2)(d:Int->Int->Option (Int×Int)):Nat->Int×Int×Int->Option (Int×Int) |0,_=>none |e+1,c=>cnd (decide (c.2.2<((a.fArgs.map idA).length:Int))) (idxD C8 a.fArgs c.2.2 fun g=>bnd (b g) fun f=>(Sc n b a d e) ((aA .i64 (c.1+f.1)),(max c.2.1 f.2),(aA .i64 (c.2.2+1))))<|d c.1 c.2.1
def Hf:Nat->B2->Option (Int×Int) |0,_=>none |n+1,a=>Sc n (Hf n) a (fun b c=>some (b,(aA .i64 (c+1)))) n (1,0,0)
def Ms (n:Nat)(a:Int)(b:Bool):Option (Int×Bool):=cnd (b) (some (0,false))<|cnd (decide (a<5)) (some (0,true))<|cnd (decide (a=12)) (some (1,true))<|some (2,true)
def Wv (n:Nat)(a:Int):Option (Int×Bool):=jon (Ms n a)<|reg<|cnd (decide (a<0)) (Ms n a true)<|Ms n a (decide (12<a))
def Mw (n:Nat)(b:Bool):Option (Bool×Bool):=cnd (b) (some (true,false))<|some (false,false)
def Mx (n:Nat)(a:Int)(b:Bool):Option (Bool×Bool):=cnd (b) (some (true,true))<|jon (Mw n)<|reg<|cnd (decide (a=2)) (Mw n (decide (a=2)))<|Mw n (decide (a=3))
def Sk (n:Nat)(a:Int):Option (Bool×Bool):=jon (Mx n a)<|reg<|cnd (decide (a=1)) (Mx n a (decide (a=1)))<|Mx n a (decide (a=4))
def N1 (n:Nat)(a:A9):Option (Int):=cnd (decide (a.fKind=0)) (cnd (decide (a.fNum<(-1099511627776))) (some 2)<|cnd (decide (1099511627776<a.fNum)) (some 2)<|cnd (decide (a.fKind=1)) (cnd (!decide (a.fNum=0)) (cnd (!decide (a.fNum=1)) (some 2)<|cnd (decide (64<((a.fText.size:Nat):Int))) (some 13)<|some 0)<|cnd (decide (64<((a.fText.size:Nat):Int))) (some 13)<|some 0)<|cnd (decide (64<((a.fText.size:Nat):Int))) (some 13)<|some 0)<|cnd (decide (a.fKind=1)) (cnd (!decide (a.fNum=0)) (cnd (!decide (a.fNum=1)) (some 2)<|cnd (decide (64<((a.fText.size:Nat):Int))) (some 13)<|some 0)<|cnd (decide (64<((a.fText.size:Nat):Int))) (some 13)<|some 0)<|cnd (decide (64<((a.fText.size:Nat):Int))) (some 13)<|some 0
def Gb (n:Nat)(a:A9):Option (Int):=cnd (decide (a.fKind=0)) (cnd (decide (a.fKind=0)) (cnd (!(a.fText.toList == ByteArray.empty.toList)) (some 3)<|bnd (N1 n a) fun e=>some e)<|cnd (decide (a.fKind=2)) (cnd (!decide (a.fNum=0)) (some 3)<|bnd (N1 n a) fun d=>some d)<|some 1)<|cnd (decide (a.fKind=1)) (cnd (!(a.fText.toList == ByteArray.empty.toList)) (some 3)<|bnd (N1 n a) fun c=>some c)<|cnd (decide (a.fKind=2)) (cnd (!decide (a.fNum=0)) (some 3)<|bnd (N1 n a) fun b=>some b)<|some 1
def Jb (n:Nat)(b:Bool):Option (Bool):=some b
def Wu (n:Nat)(a:Int)(b:A9):Option (Bool):=jon (Jb n)<|reg<|cnd (decide (b.fKind=0)) (Jb n true)<|cnd (decide (a=4)) (Jb n true)<|Jb n (decide (a=5))
def H6 (n:Nat)(b:Bool):Option (Int):=cnd (b) (some 9)<|some 0
def Wc (n:Nat)(a:B2):Option (Int):=bnd (Gb n a.fValue) fun b=>cnd (!decide (b=0)) (some b)<|jon (H6 n)<|reg<|cnd (decide (a.fOp=4)) (bnd (Wu n a.fKind a.fValue) fun c=>cnd (!(c)) (H6 n true)<|cnd (decide (a.fKind=1)) (H6 n (!(decide (a.fValue.fKind=0) && (decide (a.fValue.fNum=0) && ((a.fValue.fText.toList == ByteArray.empty.toList) && true)))))<|H6 n false)<|H6 n false
def Ce (n:Nat)(b:Bool):Option (Int):=cnd (b) (some 3)<|some 0
def My (n:Nat)(a:B2)(c:Bool×Bool)(b:Bool)(_:Unit):Option (Int):=jon (Ce n)<|reg<|cnd (!(c.1)) (cnd (!decide (a.fVar=0)) (Ce n true)<|cnd (!(c.2)) (cnd (!decide (a.fField=0)) (Ce n true)<|cnd (!(decide (a.fOp=4))) (cnd (!decide (a.fKind=0)) (Ce n true)<|cnd (!(b)) (Ce n (!(decide (a.fValue.fKind=0) && (decide (a.fValue.fNum=0) && ((a.fValue.fText.toList == ByteArray.empty.toList) && true)))))<|Ce n false)<|cnd (!(b)) (Ce n (!(decide (a.fValue.fKind=0) && (decide (a.fValue.fNum=0) && ((a.fValue.fText.toList == ByteArray.empty.toList) && true)))))<|Ce n false)<|cnd (!(decide (a.fOp=4))) (cnd (!decide (a.fKind=0)) (Ce n true)<|cnd (!(b)) (Ce n (!(decide (a.fValue.fKind=0) && (decide (a.fValue.fNum=0) && ((a.fValue.fText.toList == ByteArray.empty.toList) && true)))))<|Ce n false)<|cnd (!(b)) (Ce n (!(decide (a.fValue.fKind=0) && (decide (a.fValue.fNum=0) && ((a.fValue.fText.toList == ByteArray.empty.toList) && true)))))<|Ce n false)<|cnd (!(c.2)) (cnd (!decide (a.fField=0)) (Ce n true)<|cnd (!(decide (a.fOp=4))) (cnd (!decide (a.fKind=0)) (Ce n true)<|cnd (!(b)) (Ce n (!(decide (a.fValue.fKind=0) && (decide (a.fValue.fNum=0) && ((a.fValue.fText.toList == ByteArray.empty.toList) && true)))))<|Ce n false)<|cnd (!(b)) (Ce n (!(decide (a.fValue.fKind=0) && (decide (a.fValue.fNum=0) && ((a.fValue.fText.toList == ByteArray.empty.toList) && true)))))<|Ce n false)<|cnd (!(decide (a.fOp=4))) (cnd (!decide (a.fKind=0)) (Ce n true)<|cnd (!(b)) (Ce n (!(decide (a.fValue.fKind=0) && (decide (a.fValue.fNum=0) && ((a.fValue.fText.toList == ByteArray.empty.toList) && true)))))<|Ce n false)<|cnd (!(b)) (Ce n (!(decide (a.fValue.fKind=0) && (decide (a.fValue.fNum=0) && ((a.fValue.fText.toList == ByteArray.empty.toList) && true)))))<|Ce n false
def Mz (n:Nat)(a:B2)(c:Bool×Bool)(b:Bool):Option (Int):=jon (My n a c b)<|reg<|cnd (b) (bnd (Wc n a) fun d=>cnd (!decide (d=0)) (some d)<|My n a c b ())<|My n a c b ()
def Jc (n:Nat)(a:B2)(c:Bool×Bool)(b:Bool):Option (Int):=cnd (b) (some 1)<|jon (Mz n a c)<|reg<|cnd (decide (a.fOp=4)) (Mz n a c true)<|Mz n a c (decide (a.fOp=0))
def Ea (n:Nat)(a:B2)(c:Bool×Bool)(b:Bool):Option (Int):=cnd (b) (some 2)<|jon (Jc n a c)<|reg<|cnd (decide (a.fOp=4)) (cnd (decide (a.fKind<1)) (Jc n a c true)<|Jc n a c (decide (5<a.fKind)))<|Jc n a c false
def Wy (n:Nat)(a:B2):Option (Int):=bnd (Wv n a.fOp) fun c=>cnd (!(c.2)) (some 1)<|cnd (!decide (((a.fArgs.map idA).length:Int)=c.1)) (some 15)<|bnd (Sk n a.fOp) fun b=>jon (Ea n a b)<|reg<|cnd (b.1) (cnd (decide (a.fVar<0)) (Ea n a b true)<|cnd (decide (16<=a.fVar)) (Ea n a b true)<|cnd (b.2) (cnd (decide (a.fField<0)) (Ea n a b true)<|Ea n a b (decide (8<=a.fField)))<|Ea n a b false)<|cnd (b.2) (cnd (decide (a.fField<0)) (Ea n a b true)<|Ea n a b (decide (8<=a.fField)))<|Ea n a b false
def S7 (n:Nat)(b:B2->Option (Int))(a:B2)(c:Option (Int)):Nat->Int->Option (Int) |0,_=>none |e+1,d=>cnd (decide (d<((a.fArgs.map idA).length:Int))) (idxD C8 a.fArgs d fun g=>bnd (b g) fun f=>cnd (!decide (f=0)) (some f)<|(S7 n b a c e) (aA .i64 (d+1)))<|c
def Ha:Nat->B2->Option (Int) |0,_=>none |n+1,b=>bnd (Wy n b) fun a=>cnd (!decide (a=0)) (some a)<|S7 n (Ha n) b (some 0) n 0
def Hc (n:Nat)(b:B2):Option (Int):=bnd (Hf n b) fun a=>cnd (decide (64<a.1)) (some 5)<|cnd (decide (12<a.2)) (some 12)<|bnd (Ha n b) fun c=>some c
def Lx (n:Nat)(b:Bool):Option (Bool):=some b
def Ej (n:Nat)(a:Int)(b:Int):Option (Bool):=jon (Lx n)<|reg<|cnd (decide (0<=a)) (Lx n (decide (a<b)))<|Lx n false
def R4 (n:Nat)(b:Ba)(a:Ba):Option (Bool):=some (decide (b.fScope=a.fScope))
def Qr (n:Nat)(d:Ba)(a:(List Ba))(c:Option (Int)):Nat->Int->Option (Int) |0,_=>none |e+1,b=>cnd (decide (b<((a.map B7).length:Int))) (idx a b fun f=>bnd (R4 n f d) fun g=>cnd (g) (some b)<|(Qr n d a c e) (aA .i64 (b+1)))<|c
def Vs (n:Nat)(a:(List Ba))(b:Ba):Option (Int):=Qr n b a (some (-1)) n 0
def Qt (n:Nat)(c:(List Ba))(b:Ba):Option (Bool):=bnd (Vs n c b) fun a=>some (decide (0<=a))
def Iz (n:Nat)(a:(List Ba))(i:Ad)(b:Int)(c:Int->Option (Int))(d:Ba)(f:Bool):Option (Int):=cnd (f) (some 2)<|sls a 0 b fun g=>bnd (Qt n g d) fun h=>cnd (h) (some 7)<|bnd (Hc n d.fCond) fun e=>cnd (!decide (e=0)) (some e)<|c (aA .i64 (b+1))
def G5 (n:Nat)(a:(List Ba))(i:Ad)(b:Option (Int)):Nat->Int->Option (Int) |0,_=>none |d+1,c=>cnd (decide (c<((a.map B7).length:Int))) (idx a c fun e=>jon (Iz n a i c (G5 n a i b d) e)<|reg<|bnd (Ej n e.fScope i.fScopes) fun f=>cnd (!(f)) (Iz n a i c (G5 n a i b d) e true)<|bnd (Ej n e.fType 16) fun g=>cnd (!(g)) (Iz n a i c (G5 n a i b d) e true)<|bnd (Ej n e.fVar i.fVars) fun h=>Iz n a i c (G5 n a i b d) e !(h))<|b
def Vy (n:Nat)(b:Ad)(a:(List Ba)):Option (Int):=cnd (decide (64<((a.map B7).length:Int))) (some 5)<|G5 n a b (some 0) n 0
def Qj (n:Nat)(a:(List C3))(c:(List Int)->Option ((List Int))):Nat->Int×(List Int)->Option ((List Int)) |0,_=>none |d+1,b=>cnd (decide (b.1<((a.map Bw).length:Int))) (idx a b.1 fun e=>app b.2 [e.fScope] 8 fun f=>(Qj n a c d) ((aA .i64 (b.1+1)),f))<|c b.2
def Ra (n:Nat)(a:(List C3)):Option ((List Int)):=Qj n a (fun b=>some b) n (0,[])
def Rn (n:Nat)(f:Int)(a:(List Int))(c:Option (Int)):Nat->Int->Option (Int) |0,_=>none |d+1,b=>cnd (decide (b<((a.map aI).length:Int))) (idx a b fun e=>cnd (decide (f=e)) (some b)<|(Rn n f a c d) (aA .i64 (b+1)))<|c
def z2c (n:Nat)(b:(List Int))(a:Int):Option (Int):=Rn n a b (some (-1)) n 0
def Dw (n:Nat)(c:(List Int))(b:Int):Option (Bool):=bnd (z2c n c b) fun a=>some (decide (0<=a))
def H3 (n:Nat)(i:(List (List Int)))(a:Ad)(g:Int)(d:(List Int))(c:Option (Int)):Nat->Int->Option (Int) |0,_=>none |e+1,b=>cnd (decide (b<((d.map aI).length:Int))) (idx d b fun f=>bnd (Ej n f a.fScopes) fun h=>cnd (!(h)) (some 2)<|sls d 0 b fun j=>bnd (Dw n j f) fun k=>cnd (k) (some 7)<|(H3 n i a g d c e) (aA .i64 (b+1)))<|c
def Iy (n:Nat)(a:(List (List Int)))(f:Ad)(c:Option (Int)):Nat->Int->Option (Int) |0,_=>none |d+1,b=>cnd (decide (b<(((List.map (fun q=>AV.sl 1 (List.map aI q)) (a)).length:Nat):Int))) (idx a b fun e=>H3 n a f b e ((Iy n a f c d) (aA .i64 (b+1))) n 0)<|c
def Vx (n:Nat)(b:Ad)(a:(List (List Int))):Option (Int):=Iy n a b (some 0) n 0
def Ly (n:Nat)(b:Bool):Option (Bool):=some b
def Mb (n:Nat)(a:C3):Option (Bool):=jon (Ly n)<|reg<|cnd (decide (a.fSpan<0)) (Ly n true)<|Ly n (decide (1099511627776<a.fSpan))
def P1 (n:Nat)(a:(List C3))(c:Option (Int)):Nat->Int->Option (Int) |0,_=>none |d+1,b=>cnd (decide (b<((a.map Bw).length:Int))) (idx a b fun e=>bnd (Mb n e) fun f=>cnd (f) (some b)<|(P1 n a c d) (aA .i64 (b+1)))<|c
def Ui (n:Nat)(a:(List C3)):Option (Int):=P1 n a (some (-1)) n 0
def P2 (n:Nat)(b:(List C3)):Option (Bool):=bnd (Ui n b) fun a=>some (decide (0<=a))
def Rb (n:Nat)(a:Ag)(g:Ad)(b:Option (Int)):Nat->Int->Option (Int) |0,_=>none |d+1,c=>cnd (decide (c<((a.fChecks.map idA).length:Int))) (idxD C8 a.fChecks c fun f=>bnd (Hc n f) fun e=>cnd (!decide (e=0)) (some e)<|(Rb n a g b d) (aA .i64 (c+1)))<|b
def E8 (n:Nat)(h:Int)(a:Ag)(g:Ad)(c:Bool):Option (Int):=cnd (c) (some 2)<|cnd (decide (a.fFrom<h)) (some 14)<|bnd (Hc n a.fCond) fun f=>cnd (!decide (f=0)) (some f)<|cnd (decide (64<((a.fChecks.map idA).length:Int))) (some 5)<|Rb n a g (bnd (Ra n a.fLimits) fun d=>bnd (Vx n g ([a.fOpens,a.fCloses,a.fInside,d])) fun b=>cnd (!decide (b=0)) (some b)<|bnd (P2 n a.fLimits) fun e=>cnd (e) (some 2)<|some 0) n 0
def Wd (n:Nat)(e:Ad)(a:Ag)(f:Int):Option (Int):=jon (E8 n f a e)<|reg<|bnd (Ej n a.fFrom ((e.fStates.map Ao).length:Int)) fun b=>cnd (!(b)) (E8 n f a e true)<|cnd (decide (a.fTo<(-1))) (E8 n f a e true)<|cnd (decide (((e.fStates.map Ao).length:Int)<=a.fTo)) (E8 n f a e true)<|bnd (Ej n a.fVar e.fVars) fun c=>cnd (!(c)) (E8 n f a e true)<|bnd (Ej n a.fType 16) fun d=>E8 n f a e !(d)
def R5 (n:Nat)(a:Ad)(c:Option (Int)):Nat->Int×Int->Option (Int) |0,_=>none |d+1,b=>cnd (decide (b.2<((a.fEdges.map Ac).length:Int))) (idx a.fEdges b.2 fun e=>bnd (Wd n a e b.1) fun f=>cnd (!decide (f=0)) (some f)<|(R5 n a c d) (e.fFrom,(aA .i64 (b.2+1))))<|c
def R6 (n:Nat)(a:Ad)(b:Option (Int)):Nat->Int->Option (Int) |0,_=>none |d+1,c=>cnd (decide (c<((a.fStates.map Ao).length:Int))) (idx a.fStates c fun f=>bnd (Vy n a f.fGuards) fun e=>cnd (!decide (e=0)) (some e)<|(R6 n a b d) (aA .i64 (c+1)))<|b
def G7 (n:Nat)(a:Ad)(b:Bool):Option (Int):=cnd (b) (some 5)<|R6 n a (R5 n a (some 0) n (0,0)) n 0
def F7 (n:Nat)(a:Ad)(b:Bool):Option (Int):=cnd (b) (some 2)<|jon (G7 n a)<|reg<|cnd (decide (((a.fStates.map Ao).length:Int)<1)) (G7 n a true)<|cnd (decide (256<((a.fStates.map Ao).length:Int))) (G7 n a true)<|G7 n a (decide (2048<((a.fEdges.map Ac).length:Int)))
def Ek (n:Nat)(a:Ad):Option (Int):=jon (F7 n a)<|reg<|cnd (decide (a.fVars<0)) (F7 n a true)<|cnd (decide (16<a.fVars)) (F7 n a true)<|cnd (decide (a.fScopes<0)) (F7 n a true)<|F7 n a (decide (64<a.fScopes))
def I9 (n:Nat)(b:Bool):Option (Bool):=some b
def Qz (n:Nat)(a:Int):Option (Bool):=jon (I9 n)<|reg<|cnd (decide (0<=a)) (I9 n (decide (a<=5)))<|I9 n false
structure C5 where
 fKind:Int
 fCount:Int
 fValue:A9
deriving DecidableEq,Inhabited
def E9 (x:C5):AV:=.agg [aI (x.fKind),aI (x.fCount),aI (x.fValue.fKind),aI (x.fValue.fNum),.str (x.fValue.fText)]
abbrev W0 (x:C5):List AV:=[aI (x.fKind),aI (x.fCount),aI (x.fValue.fKind),aI (x.fValue.fNum),.str (x.fValue.fText)]
def Gp (n:Nat)(b:Bool):Option (Int):=cnd (b) (some 3)<|some 0
def Kz (n:Nat)(b:Bool):Option (Int):=cnd (b) (some 3)<|some 0
def L0 (n:Nat)(a:C5)(b:Bool):Option (Int):=cnd (b) (cnd (!(decide (a.fValue.fKind=0) && (decide (a.fValue.fNum=0) && ((a.fValue.fText.toList == ByteArray.empty.toList) && true)))) (some 3)<|some 0)<|cnd (decide (a.fKind=1)) (jon (Gp n)<|reg<|cnd (!decide (a.fValue.fKind=0)) (Gp n true)<|cnd (!(a.fValue.fText.toList == ByteArray.empty.toList)) (Gp n true)<|cnd (decide (a.fValue.fNum<(aA .i64 (0-(aA .i64 (a.fCount*1099511627776)))))) (Gp n true)<|Gp n (decide ((aA .i64 (a.fCount*1099511627776))<a.fValue.fNum)))<|jon (Kz n)<|reg<|bnd (H0 n a.fValue) fun d=>cnd (!decide (d=0)) (Kz n true)<|bnd (Lw n a.fKind a.fValue) fun c=>Kz n !(c)
def L1 (n:Nat)(a:C5)(b:Bool):Option (Int):=cnd (b) (some 2)<|jon (L0 n a)<|reg<|cnd (decide (a.fCount=0)) (L0 n a true)<|L0 n a (decide (a.fKind=0))
def Qp (n:Nat)(a:C5):Option (Int):=bnd (Qz n a.fKind) fun b=>cnd (!(b)) (some 1)<|jon (L1 n a)<|reg<|cnd (decide (a.fCount<0)) (L1 n a true)<|L1 n a (decide (4096<a.fCount))
def Qn (n:Nat)(d:Int)(b:A9):Option (Int):=bnd (H0 n b) fun a=>cnd (!decide (a=0)) (some a)<|bnd (Lw n d b) fun c=>cnd (!(c)) (some 9)<|some 0
def U4 (n:Nat)(a:Int)(c:A9)(b:A9):Option (A9):=cnd (decide (a=1)) (some (⟨0,(aA .i64 (c.fNum+b.fNum)),ByteArray.empty⟩))<|cnd (decide (a=2)) (some (⟨0,(min c.fNum b.fNum),ByteArray.empty⟩))<|cnd (decide (a=3)) (some (⟨0,(max c.fNum b.fNum),ByteArray.empty⟩))<|cnd (decide (a=4)) (some c)<|cnd (decide (a=5)) (some b)<|some (⟨0,0,ByteArray.empty⟩)
def Ip (n:Nat)(a:C5)(b:Int×Int×ByteArray):Option (C5×Int):=some (⟨a.fKind,(aA .i64 (a.fCount+1)),⟨b.1,b.2.1,b.2.2⟩⟩,0)
def Vd (n:Nat)(a:C5)(b:A9):Option (C5×Int):=bnd (Qp n a) fun e=>cnd (!decide (e=0)) (some (⟨0,0,⟨0,0,ByteArray.empty⟩⟩,e))<|bnd (Qn n a.fKind b) fun d=>cnd (!decide (d=0)) (some (⟨0,0,⟨0,0,ByteArray.empty⟩⟩,d))<|cnd (decide (a.fCount=4096)) (some (⟨0,0,⟨0,0,ByteArray.empty⟩⟩,5))<|jon (Ip n a)<|reg<|cnd (decide (a.fKind=0)) (Ip n a (0,0,ByteArray.empty))<|reg<|cnd (decide (0<a.fCount)) (bnd (U4 n a.fKind a.fValue b) fun c=>Ip n a (c.fKind,c.fNum,c.fText))<|Ip n a (b.fKind,b.fNum,b.fText)
def Kk (n:Nat)(a:A9)(c:C5)(b:Bool):Option (A9×Int):=cnd (b) (some (a,0))<|some (c.fValue,0)
def Qe (n:Nat)(a:C5)(b:A9):Option (A9×Int):=bnd (Qp n a) fun d=>cnd (!decide (d=0)) (some (⟨0,0,ByteArray.empty⟩,d))<|bnd (Qn n a.fKind b) fun c=>cnd (!decide (c=0)) (some (⟨0,0,ByteArray.empty⟩,c))<|cnd (decide (a.fKind=0)) (some (⟨0,a.fCount,ByteArray.empty⟩,0))<|jon (Kk n b a)<|reg<|cnd (decide (a.fCount=0)) (Kk n b a (!decide (a.fKind=1)))<|Kk n b a false
def Qo (n:Nat)(g:A9)(a:(List A9))(d:Int->Int->Int->Int->ByteArray->Option (A9×Int)):Nat->Int×Int×Int×Int×Int×ByteArray->Option (A9×Int) |0,_=>none |e+1,b=>cnd (decide (b.1<((a.map Af).length:Int))) (idx a b.1 fun f=>bnd (Vd n (⟨b.2.1,b.2.2.1,⟨b.2.2.2.1,b.2.2.2.2.1,b.2.2.2.2.2⟩⟩:C5) f) fun c=>cnd (!decide (c.2=0)) (some (⟨0,0,ByteArray.empty⟩,c.2))<|(Qo n g a d e) ((aA .i64 (b.1+1)),c.1.fKind,c.1.fCount,c.1.fValue.fKind,c.1.fValue.fNum,c.1.fValue.fText))<|d b.2.1 b.2.2.1 b.2.2.2.1 b.2.2.2.2.1 b.2.2.2.2.2
def Rc (n:Nat)(i:Int)(h:(List A9))(a:A9):Option (A9×Int):=bnd (Qz n i) fun j=>cnd (!(j)) (some (⟨0,0,ByteArray.empty⟩,1))<|cnd (decide (4096<((h.map Af).length:Int))) (some (⟨0,0,ByteArray.empty⟩,5))<|Qo n a h (fun b c d e f=>bnd (Qe n (⟨b,c,⟨d,e,f⟩⟩:C5) a) fun g=>some (g.1,g.2)) n (0,i,0,0,0,ByteArray.empty)
structure A8 where
 fSource:Int
 fSeq:Int
 fType:Int
 fTime:Int
 fValues:(List A9)
deriving DecidableEq,Inhabited
def A7 (x:A8):AV:=.agg [aI (x.fSource),aI (x.fSeq),aI (x.fType),aI (x.fTime),.sl 3 (x.fValues.map Af)]
abbrev Bx (x:A8):List AV:=[aI (x.fSource),aI (x.fSeq),aI (x.fType),aI (x.fTime),.sl 3 (x.fValues.map Af)]
structure Aq where
 fVars:(List (List A8))
deriving DecidableEq,Inhabited
def Dp (x:Aq):AV:=.agg [.sl 1 (List.map (fun q=>AV.sl 5 (List.map A7 q)) (x.fVars))]
abbrev Dq (x:Aq):List AV:=[.sl 1 (List.map (fun q=>AV.sl 5 (List.map A7 q)) (x.fVars))]
def Kj (n:Nat)(c:Int)(d:Aq)(b:Bool):Option ((List A8)):=cnd (b) (some [])<|idx d.fVars c fun a=>some a
def Lq (n:Nat)(b:Aq)(a:Int):Option ((List A8)):=jon (Kj n a b)<|reg<|cnd (decide (a<0)) (Kj n a b true)<|Kj n a b (decide ((((List.map (fun q=>AV.sl 5 (List.map A7 q)) (b.fVars)).length:Nat):Int)<=a))
def Zm (n:Nat)(f:Aq)(b:Int)(e:Int)(d:A8):Option (A8×Bool):=cnd (decide (b=e)) (some (d,true))<|bnd (Lq n (⟨f.fVars⟩:Aq) b) fun a=>cnd (decide (((a.map A7).length:Int)=0)) (some (⟨0,0,0,0,[]⟩,false))<|idx a (aA .i64 (((a.map A7).length:Int)-1)) fun c=>some (c,true)
def Q0 (n:Nat)(i:B2)(a:(List A8))(c:(List A9)->Option (A9×Int)):Nat->Int×(List A9)->Option (A9×Int) |0,_=>none |d+1,b=>cnd (decide (b.1<((a.map A7).length:Int))) (idx a b.1 fun e=>cnd (decide (((e.fValues.map Af).length:Int)<=i.fField)) (some (⟨0,0,ByteArray.empty⟩,6))<|idx a b.1 fun f=>idx f.fValues i.fField fun g=>app b.2 [g] 32 fun h=>(Q0 n i a c d) ((aA .i64 (b.1+1)),h))<|c b.2
def Qy (n:Nat)(a:B2)(h:Aq)(l:Int)(k:A8):Option (A9×Int):=cnd (decide (a.fOp=0)) (some (a.fValue,0))<|cnd (decide (a.fOp=3)) (bnd (Lq n (⟨h.fVars⟩:Aq) a.fVar) fun j=>some (⟨0,((j.map A7).length:Int),ByteArray.empty⟩,0))<|cnd (decide (a.fOp=4)) (bnd (Lq n (⟨h.fVars⟩:Aq) a.fVar) fun i=>Q0 n a i (fun c=>bnd (Rc n a.fKind c a.fValue) fun d=>some (d.1,d.2)) n (0,[]))<|bnd (Zm n (⟨h.fVars⟩:Aq) a.fVar l k) fun b=>cnd (!(b.2)) (some (⟨0,0,ByteArray.empty⟩,10))<|cnd (decide (a.fOp=2)) (some (⟨0,b.1.fTime,ByteArray.empty⟩,0))<|cnd (decide (((b.1.fValues.map Af).length:Int)<=a.fField)) (some (⟨0,0,ByteArray.empty⟩,6))<|idx b.1.fValues a.fField fun f=>bnd (H0 n f) fun e=>cnd (!decide (e=0)) (some (⟨0,0,ByteArray.empty⟩,e))<|idx b.1.fValues a.fField fun g=>some (g,0)
def Hv (n:Nat)(b:Bool):Option (Int):=cnd (b) (some 1)<|some (-1)
def Gi (n:Nat)(a:Int)(b:Bool):Option (Int):=cnd (b) (some 0)<|jon (Hv n)<|reg<|cnd (decide (a=10)) (Hv n (decide (a=10)))<|reg<|cnd (decide (a=11)) (Hv n (decide (a=11)))<|Hv n (decide (a=12))
def U0 (n:Nat)(a:Int):Option (Int):=jon (Gi n a)<|reg<|cnd (decide (a=5)) (Gi n a (decide (a=5)))<|reg<|cnd (decide (a=6)) (Gi n a (decide (a=6)))<|reg<|cnd (decide (a=7)) (Gi n a (decide (a=7)))<|Gi n a (decide (a=8))
def Fn (n:Nat)(a:(List Int))(e:Int)(c:Int)(b:Int->Option (Int))(d:Bool):Option (Int):=cnd (d) (some 9)<|b (aA .i64 (c+1))
def F5 (n:Nat)(a:(List Int))(i:Int)(b:Option (Int)):Nat->Int->Option (Int) |0,_=>none |d+1,c=>cnd (decide (c<((a.map aI).length:Int))) (bnd (U0 n i) fun e=>jon (Fn n a i c (F5 n a i b d))<|reg<|cnd (decide (0<=e)) (idx a c fun f=>cnd (!decide (f=e)) (Fn n a i c (F5 n a i b d) true)<|cnd (decide (i=9)) (idx a c fun g=>idx a 0 fun h=>Fn n a i c (F5 n a i b d) (!decide (g=h)))<|Fn n a i c (F5 n a i b d) false)<|cnd (decide (i=9)) (idx a c fun j=>idx a 0 fun k=>Fn n a i c (F5 n a i b d) (!decide (j=k)))<|Fn n a i c (F5 n a i b d) false)<|b
def Yj (n:Nat)(b:Int)(a:(List Int)):Option (Int):=F5 n a b (some 0) n 0
def Du (n:Nat)(a:Bool):Option (A9):=cnd (a) (some (⟨1,1,ByteArray.empty⟩))<|some (⟨1,0,ByteArray.empty⟩)
def Kw (n:Nat)(b:Int×Int×ByteArray):Option (A9):=some (⟨b.1,b.2.1,b.2.2⟩)
def Kv (n:Nat)(b:Int×Int×ByteArray):Option (A9):=some (⟨b.1,b.2.1,b.2.2⟩)
def Lv (n:Nat)(i:Int)(a:(List A9)):Option (A9):=cnd (decide (i=5)) (idx a 0 fun z=>idx a 1 fun y=>some (⟨0,(aA .i64 (z.fNum+y.fNum)),ByteArray.empty⟩))<|cnd (decide (i=6)) (idx a 0 fun x=>idx a 1 fun w=>some (⟨0,(aA .i64 (x.fNum-w.fNum)),ByteArray.empty⟩))<|cnd (decide (i=7)) (idx a 0 fun v=>idx a 1 fun u=>bnd (Du n (decide (v.fNum<u.fNum))) fun t=>some t)<|cnd (decide (i=8)) (idx a 0 fun r=>idx a 1 fun m=>bnd (Du n (decide (r.fNum<=m.fNum))) fun h=>some h)<|cnd (decide (i=9)) (idx a 0 fun b=>idx a 1 fun c=>bnd (Du n (decide (b.fKind=c.fKind) && (decide (b.fNum=c.fNum) && ((b.fText.toList == c.fText.toList) && true)))) fun j=>some j)<|cnd (decide (i=10)) (jon (Kw n)<|reg<|idx a 0 fun k=>cnd (decide (k.fNum=1)) (idx a 1 fun l=>bnd (Du n (decide (l.fNum=1))) fun d=>Kw n (d.fKind,d.fNum,d.fText))<|bnd (Du n false) fun e=>Kw n (e.fKind,e.fNum,e.fText))<|cnd (decide (i=11)) (jon (Kv n)<|reg<|idx a 0 fun o=>cnd (decide (o.fNum=1)) (bnd (Du n true) fun f=>Kv n (f.fKind,f.fNum,f.fText))<|idx a 1 fun p=>bnd (Du n (decide (p.fNum=1))) fun g=>Kv n (g.fKind,g.fNum,g.fText))<|idx a 0 fun q=>bnd (Du n (!decide (q.fNum=1))) fun s=>some s
def Q1 (n:Nat)(b:B2->Aq->Int->A8->Option (A9×Int))(i:A8)(k:Int)(l:Aq)(a:B2)(d:(List A9)->(List Int)->Option (A9×Int)):Nat->Int×(List A9)×(List Int)->Option (A9×Int) |0,_=>none |f+1,c=>cnd (decide (c.1<((a.fArgs.map idA).length:Int))) (idxD C8 a.fArgs c.1 fun g=>bnd (b g (⟨l.fVars⟩:Aq) k i) fun e=>cnd (!decide (e.2=0)) (some (⟨0,0,ByteArray.empty⟩,e.2))<|app c.2.1 [e.1] 32 fun h=>app c.2.2 [e.1.fKind] 8 fun j=>(Q1 n b i k l a d f) ((aA .i64 (c.1+1)),h,j))<|d c.2.1 c.2.2
def H4:Nat->B2->Aq->Int->A8->Option (A9×Int) |0,_,_,_,_=>none |n+1,a,i,h,g=>cnd (decide (((a.fArgs.map idA).length:Int)=0)) (bnd (Qy n a (⟨i.fVars⟩:Aq) h g) fun f=>some (f.1,f.2))<|Q1 n (H4 n) g h i a (fun b c=>bnd (Yj n a.fOp c) fun d=>cnd (!decide (d=0)) (some (⟨0,0,ByteArray.empty⟩,d))<|bnd (Lv n a.fOp b) fun e=>some (e,0)) n (0,[],[])
def Zn (n:Nat)(c:B2)(f:Aq)(e:Int)(d:A8):Option (A9×Int):=bnd (G4 n c) fun b=>cnd (!decide (b=0)) (some (⟨0,0,ByteArray.empty⟩,b))<|bnd (H4 n c (⟨f.fVars⟩:Aq) e d) fun a=>some (a.1,a.2)
def Kx (n:Nat)(b:Bool):Option (Bool):=some b
def G1 (n:Nat)(f:B2)(e:Aq)(d:Int)(c:A8):Option (Bool):=bnd (Zn n f (⟨e.fVars⟩:Aq) d c) fun a=>jon (Kx n)<|reg<|cnd (decide (a.2=0)) (bnd (Du n true) fun b=>Kx n (decide (a.1.fKind=b.fKind) && (decide (a.1.fNum=b.fNum) && ((a.1.fText.toList == b.fText.toList) && true))))<|Kx n false
structure Bp where
 fTime:Int
 fSource:Int
 fSeq:Int
deriving DecidableEq,Inhabited
def Bm (x:Bp):AV:=.agg [aI (x.fTime),aI (x.fSource),aI (x.fSeq)]
abbrev y2q (x:Bp):List AV:=[aI (x.fTime),aI (x.fSource),aI (x.fSeq)]
structure Bf where
 fVar:Int
 fRef:Bp
deriving DecidableEq,Inhabited
def Az (x:Bf):AV:=.agg [aI (x.fVar),aI (x.fRef.fTime),aI (x.fRef.fSource),aI (x.fRef.fSeq)]
abbrev zo1 (x:Bf):List AV:=[aI (x.fVar),aI (x.fRef.fTime),aI (x.fRef.fSource),aI (x.fRef.fSeq)]
structure Aa where
 fBindings:(List Bf)
deriving DecidableEq,Inhabited
def Ax (x:Aa):AV:=.agg [.sl 4 (x.fBindings.map Az)]
abbrev Hd (x:Aa):List AV:=[.sl 4 (x.fBindings.map Az)]
def Qq (n:Nat)(b:Bp)(a:Bp):Option (Int):=cnd (!decide (b.fTime=a.fTime)) (cnd (decide (b.fTime<a.fTime)) (some (-1))<|some 1)<|cnd (!decide (b.fSource=a.fSource)) (cnd (decide (b.fSource<a.fSource)) (some (-1))<|some 1)<|cnd (decide (b.fSeq<a.fSeq)) (some (-1))<|cnd (decide (a.fSeq<b.fSeq)) (some 1)<|some 0
def Up (n:Nat)(b:Bf)(a:Bf):Option (Int):=bnd (Qq n (⟨b.fRef.fTime,b.fRef.fSource,b.fRef.fSeq⟩:Bp) (⟨a.fRef.fTime,a.fRef.fSource,a.fRef.fSeq⟩:Bp)) fun c=>cnd (!decide (c=0)) (some c)<|cnd (decide (b.fVar<a.fVar)) (some (-1))<|cnd (decide (a.fVar<b.fVar)) (some 1)<|some 0
def K8 (n:Nat)(a:Aa)(i:Aa)(b:Int)(e:Option (Int))(f:Int->Option (Int))(h:Bool):Option (Int):=cnd (h) (idx i.fBindings b fun c=>idx a.fBindings b fun d=>bnd (Up n (⟨c.fVar,⟨c.fRef.fTime,c.fRef.fSource,c.fRef.fSeq⟩⟩:Bf) (⟨d.fVar,⟨d.fRef.fTime,d.fRef.fSource,d.fRef.fSeq⟩⟩:Bf)) fun g=>cnd (!decide (g=0)) (some g)<|f (aA .i64 (b+1)))<|e
def Hz (n:Nat)(a:Aa)(e:Aa)(b:Option (Int)):Nat->Int->Option (Int) |0,_=>none |d+1,c=>jon (K8 n a e c b (Hz n a e b d))<|reg<|cnd (decide (c<((e.fBindings.map Az).length:Int))) (K8 n a e c b (Hz n a e b d) (decide (c<((a.fBindings.map Az).length:Int))))<|K8 n a e c b (Hz n a e b d) false
def Gt (n:Nat)(b:Aa)(a:Aa):Option (Int):=Hz n a b (cnd (decide (((b.fBindings.map Az).length:Int)<((a.fBindings.map Az).length:Int))) (some (-1))<|cnd (decide (((a.fBindings.map Az).length:Int)<((b.fBindings.map Az).length:Int))) (some 1)<|some 0) n 0
structure Ak where
 fScope:Int
 fTime:Int
deriving DecidableEq,Inhabited
def Ah (x:Ak):AV:=.agg [aI (x.fScope),aI (x.fTime)]
abbrev zdf (x:Ak):List AV:=[aI (x.fScope),aI (x.fTime)]
structure A1 where
 fState:Int
 fBindings:(List Bf)
 fStarts:(List Ak)
deriving DecidableEq,Inhabited
def A5 (x:A1):AV:=.agg [aI (x.fState),.sl 4 (x.fBindings.map Az),.sl 2 (x.fStarts.map Ah)]
abbrev C2 (x:A1):List AV:=[aI (x.fState),.sl 4 (x.fBindings.map Az),.sl 2 (x.fStarts.map Ah)]
def Hy (n:Nat)(a:A1)(g:A1)(e:Int)(b:Int->Option (Int))(c:Ak)(d:Ak)(f:Bool):Option (Int):=cnd (f) (some (-1))<|cnd (!(decide (c.fScope=d.fScope) && (decide (c.fTime=d.fTime) && true))) (some 1)<|b (aA .i64 (e+1))
def K7 (n:Nat)(a:A1)(h:A1)(b:Int)(f:Option (Int))(c:Int->Option (Int))(g:Bool):Option (Int):=cnd (g) (idx h.fStarts b fun d=>idx a.fStarts b fun e=>jon (Hy n a h b c d e)<|reg<|cnd (decide (d.fScope<e.fScope)) (Hy n a h b c d e true)<|cnd (decide (d.fScope=e.fScope)) (Hy n a h b c d e (decide (d.fTime<e.fTime)))<|Hy n a h b c d e false)<|f
def Hx (n:Nat)(a:A1)(e:A1)(b:Option (Int)):Nat->Int->Option (Int) |0,_=>none |d+1,c=>jon (K7 n a e c b (Hx n a e b d))<|reg<|cnd (decide (c<((e.fStarts.map Ah).length:Int))) (K7 n a e c b (Hx n a e b d) (decide (c<((a.fStarts.map Ah).length:Int))))<|K7 n a e c b (Hx n a e b d) false
def Py (n:Nat)(b:A1)(a:A1):Option (Int):=cnd (!decide (b.fState=a.fState)) (cnd (decide (b.fState<a.fState)) (some (-1))<|some 1)<|bnd (Gt n (⟨b.fBindings⟩:Aa) (⟨a.fBindings⟩:Aa)) fun c=>cnd (!decide (c=0)) (some c)<|Hx n a b (cnd (decide (((b.fStarts.map Ah).length:Int)<((a.fStarts.map Ah).length:Int))) (some (-1))<|cnd (decide (((a.fStarts.map Ah).length:Int)<((b.fStarts.map Ah).length:Int))) (some 1)<|some 0) n 0
def Lh (n:Nat)(i:A1)(a:(List A1))(b:Int)(c:Bool):Option ((List A1)):=cnd (c) (some a)<|sls a 0 b fun d=>app ([]:List A1) d 56 fun e=>app e [i] 56 fun f=>sls a b ((a.map A5).length:Int) fun g=>app f g 56 fun h=>some h
def Lg (n:Nat)(a:A1)(f:(List A1))(b:Int)(c:Int->Option ((List A1)))(d:Int->Option ((List A1)))(e:Bool):Option ((List A1)):=cnd (e) (d (aA .i64 (b+1)))<|c b
def Ii (n:Nat)(g:A1)(a:(List A1))(b:Int->Option ((List A1))):Nat->Int->Option ((List A1)) |0,_=>none |d+1,c=>jon (Lg n g a c b (Ii n g a b d))<|reg<|cnd (decide (c<((a.map A5).length:Int))) (idx a c fun e=>bnd (Py n e g) fun f=>Lg n g a c b (Ii n g a b d) (decide (f<0)))<|Lg n g a c b (Ii n g a b d) false
def M3 (n:Nat)(a:(List A1))(e:A1):Option ((List A1)):=Ii n e a (fun b=>jon (Lh n e a b)<|reg<|cnd (decide (b<((a.map A5).length:Int))) (idx a b fun c=>bnd (Py n c e) fun d=>Lh n e a b (decide (d=0)))<|Lh n e a b false) n 0
def J3 (n:Nat)(b:Bool):Option (Bool):=some b
def Ry (n:Nat)(a:Int):Option (Bool):=jon (J3 n)<|reg<|cnd (decide (0<=a)) (J3 n (decide (a<=5)))<|J3 n false
def H5 (n:Nat)(b:Bool):Option (Bool):=some b
def Rx (n:Nat)(a:Int)(b:A9):Option (Bool):=jon (H5 n)<|reg<|cnd (decide (b.fKind=0)) (H5 n true)<|cnd (!decide (a=1)) (cnd (!decide (a=2)) (H5 n (!decide (a=3)))<|H5 n false)<|H5 n false
def Mi (n:Nat)(d:Int)(b:A9):Option (Int):=bnd (Gb n b) fun a=>cnd (!decide (a=0)) (some a)<|bnd (Rx n d b) fun c=>cnd (!(c)) (some 9)<|some 0
def Zy (n:Nat)(b:Int)(a:A9):Option (A9):=cnd (decide (b=0)) (some (⟨0,0,ByteArray.empty⟩))<|some a
def Zk (n:Nat):Option (A9):=some (⟨0,0,ByteArray.empty⟩)
def Zj (n:Nat)(b:A9)(a:A9):Option (A9×A9×A9):=some (⟨0,(aA .i64 (b.fNum+a.fNum)),ByteArray.empty⟩,b,a)
def Zi (n:Nat)(b:A9)(a:A9):Option (A9×A9×A9):=some (⟨0,(min b.fNum a.fNum),ByteArray.empty⟩,b,a)
def Zh (n:Nat)(b:A9)(a:A9):Option (A9×A9×A9):=some (⟨0,(max b.fNum a.fNum),ByteArray.empty⟩,b,a)
def Zg (n:Nat)(a:A9):Option (A9×A9):=some (a,a)
def Zf (n:Nat)(a:A9):Option (A9×A9):=some (a,a)
def Vq (n:Nat)(a:Int)(c:A9)(b:A9):Option (A9):=natc a 0 (bnd (Zk n) fun i=>some i)<|natc a 1 (bndM 15 (Zj n c b) fun h=>some h.1)<|natc a 2 (bndM 15 (Zi n c b) fun g=>some g.1)<|natc a 3 (bndM 15 (Zh n c b) fun f=>some f.1)<|natc a 4 (bndM 15 (Zg n c) fun e=>some e.1)<|natc a 5 (bndM 15 (Zf n b) fun d=>some d.1)<|none
def Zz (n:Nat)(a:C5)(b:C5):Option (C5):=cnd (decide (a.fCount=0)) (some b)<|cnd (decide (b.fCount=0)) (some a)<|bnd (Vq n a.fKind a.fValue b.fValue) fun c=>some (⟨a.fKind,(aA .i64 (a.fCount+b.fCount)),c⟩)
def z1g (n:Nat)(e:C5)(d:A9)(a:Int):Option (C5):=bnd (Zy n a d) fun c=>bnd (Zz n e (⟨a,1,c⟩:C5)) fun b=>some b
def Qx (n:Nat)(e:Int)(a:(List A9))(c:Int->Int->Int->Int->ByteArray->Option (C5)):Nat->Int×Int×Int×Int×Int×ByteArray->Option (C5) |0,_=>none |f+1,b=>cnd (decide (b.1<((a.map Af).length:Int))) (idx a b.1 fun g=>bnd (z1g n (⟨b.2.1,b.2.2.1,⟨b.2.2.2.1,b.2.2.2.2.1,b.2.2.2.2.2⟩⟩:C5) g e) fun d=>(Qx n e a c f) ((aA .i64 (b.1+1)),d.fKind,d.fCount,d.fValue.fKind,d.fValue.fNum,d.fValue.fText))<|c b.2.1 b.2.2.1 b.2.2.2.1 b.2.2.2.2.1 b.2.2.2.2.2
def Vz (n:Nat)(a:C5)(h:(List A9))(g:Int):Option (C5):=Qx n g h (fun b c d e f=>some (⟨b,c,⟨d,e,f⟩⟩)) n (0,a.fKind,a.fCount,a.fValue.fKind,a.fValue.fNum,a.fValue.fText)
def M1 (n:Nat)(a:C5)(b:Bool):Option (Int):=cnd (b) (some 2)<|reg<|cnd (decide (a.fCount=0)) (cnd (!((decide (a.fValue.fKind=0) && (decide (a.fValue.fNum=0) && ((a.fValue.fText.toList == ByteArray.empty.toList) && true))))) (some 3)<|some 0)<|cnd (decide (a.fKind=0)) (cnd (!((decide (a.fValue.fKind=0) && (decide (a.fValue.fNum=0) && ((a.fValue.fText.toList == ByteArray.empty.toList) && true))))) (some 3)<|some 0)<|reg<|cnd (decide (a.fKind=1)) (reg<|cnd (decide (a.fValue.fKind=0)) (cnd ((a.fValue.fText.toList == ByteArray.empty.toList)) (cnd (decide ((aA .i64 (0-(aA .i64 (a.fCount*1099511627776))))<=a.fValue.fNum)) (cnd (!(decide (a.fValue.fNum<=(aA .i64 (a.fCount*1099511627776))))) (some 3)<|some 0)<|some 3)<|some 3)<|some 3)<|reg<|bnd (Gb n a.fValue) fun d=>cnd (decide (d=0)) (bnd (Rx n a.fKind a.fValue) fun c=>cnd (!(c)) (some 3)<|some 0)<|some 3
def W9 (n:Nat)(a:C5):Option (Int):=bnd (Ry n a.fKind) fun b=>cnd (!(b)) (some 1)<|jon (M1 n a)<|reg<|cnd (decide (a.fCount<0)) (M1 n a true)<|M1 n a (decide (4096<a.fCount))
def Lz (n:Nat)(a:A9)(c:C5)(b:Bool):Option (A9×Int):=cnd (b) (some (a,0))<|some (c.fValue,0)
def Rl (n:Nat)(a:C5)(b:A9):Option (A9×Int):=bnd (W9 n a) fun d=>cnd (!decide (d=0)) (some (⟨0,0,ByteArray.empty⟩,d))<|bnd (Mi n a.fKind b) fun c=>cnd (!decide (c=0)) (some (⟨0,0,ByteArray.empty⟩,c))<|cnd (decide (a.fKind=0)) (some (⟨0,a.fCount,ByteArray.empty⟩,0))<|jon (Lz n b a)<|reg<|cnd (decide (a.fCount=0)) (Lz n b a (!decide (a.fKind=1)))<|Lz n b a false
def Rz (n:Nat)(h:A9)(a:(List A9))(g:Int)(b:Option (A9×Int)):Nat->Int->Option (A9×Int) |0,_=>none |d+1,c=>cnd (decide (c<((a.map Af).length:Int))) (idx a c fun f=>bnd (Mi n g f) fun e=>cnd (!decide (e=0)) (some (⟨0,0,ByteArray.empty⟩,e))<|(Rz n h a g b d) (aA .i64 (c+1)))<|b
def Sd (n:Nat)(a:Int)(d:(List A9))(e:A9):Option (A9×Int):=bnd (Ry n a) fun f=>cnd (!(f)) (some (⟨0,0,ByteArray.empty⟩,1))<|cnd (decide (4096<((d.map Af).length:Int))) (some (⟨0,0,ByteArray.empty⟩,5))<|Rz n e d a (bnd (Vz n (⟨a,0,⟨0,0,ByteArray.empty⟩⟩:C5) d a) fun c=>bnd (Rl n c e) fun b=>some (b.1,b.2)) n 0
def X0 (n:Nat)(a:Int):Option (Bool):=some (!decide (a=a))
def D1 (n:Nat)(b:Int)(a:Int):Option (Int):=bnd (X0 n b) fun d=>bnd (X0 n a) fun c=>cnd (d) (cnd (c) (some 0)<|some (-1))<|cnd (c) (some 1)<|cnd (decide (b<a)) (some (-1))<|cnd (decide (a<b)) (some 1)<|some 0
def Sm (n:Nat)(a:(List Int))(b:Option (Int)):Nat->Int->Option (Int) |0,_=>none |d+1,c=>cnd (decide (c<((a.map aI).length:Int))) (idx a c fun e=>cnd (!decide (e=0)) (some e)<|(Sm n a b d) (aA .i64 (c+1)))<|b
def Eo (n:Nat)(a:(List Int)):Option (Int):=Sm n a (some 0) n 0
def Wt (n:Nat)(b:Bp)(a:Bp):Option (Int):=bnd (D1 n b.fTime a.fTime) fun f=>bnd (D1 n b.fSource a.fSource) fun e=>bnd (D1 n b.fSeq a.fSeq) fun d=>bnd (Eo n ([f,e,d])) fun c=>some c
def W8 (n:Nat)(b:Bf)(a:Bf):Option (Int):=bnd (Wt n (⟨b.fRef.fTime,b.fRef.fSource,b.fRef.fSeq⟩:Bp) (⟨a.fRef.fTime,a.fRef.fSource,a.fRef.fSeq⟩:Bp)) fun e=>bnd (D1 n b.fVar a.fVar) fun d=>bnd (Eo n ([e,d])) fun c=>some c
def Q2 (n:Nat)(a:(List Bf))(h:(List Bf))(c:Option (Int)):Nat->Int->Option (Int) |0,_=>none |f+1,b=>cnd (decide (b<((h.map Az).length:Int))) (idx h b fun d=>cnd (decide (((a.map Az).length:Int)<=b)) (some 1)<|idx a b fun e=>bnd (W8 n (⟨d.fVar,⟨d.fRef.fTime,d.fRef.fSource,d.fRef.fSeq⟩⟩:Bf) (⟨e.fVar,⟨e.fRef.fTime,e.fRef.fSource,e.fRef.fSeq⟩⟩:Bf)) fun g=>cnd (!decide (g=0)) (some g)<|(Q2 n a h c f) (aA .i64 (b+1)))<|c
def V1 (n:Nat)(b:(List Bf))(a:(List Bf)):Option (Int):=Q2 n a b (cnd (decide (((b.map Az).length:Int)<((a.map Az).length:Int))) (some (-1))<|some 0) n 0
def S6 (n:Nat)(c:Aa)(b:Aa):Option (Int):=bnd (V1 n c.fBindings b.fBindings) fun a=>some a
def Wh (n:Nat)(b:Ak)(a:Ak):Option (Int):=bnd (D1 n b.fScope a.fScope) fun e=>bnd (D1 n b.fTime a.fTime) fun d=>bnd (Eo n ([e,d])) fun c=>some c
def Og (n:Nat)(a:(List Ak))(h:(List Ak))(c:Option (Int)):Nat->Int->Option (Int) |0,_=>none |d+1,b=>cnd (decide (b<((h.map Ah).length:Int))) (idx h b fun f=>cnd (decide (((a.map Ah).length:Int)<=b)) (some 1)<|idx a b fun g=>bnd (Wh n f g) fun e=>cnd (!decide (e=0)) (some e)<|(Og n a h c d) (aA .i64 (b+1)))<|c
def U1 (n:Nat)(b:(List Ak))(a:(List Ak)):Option (Int):=Og n a b (cnd (decide (((b.map Ah).length:Int)<((a.map Ah).length:Int))) (some (-1))<|some 0) n 0
def Wm (n:Nat)(b:A1)(a:A1):Option (Int):=bnd (D1 n b.fState a.fState) fun f=>bnd (S6 n (⟨b.fBindings⟩:Aa) (⟨a.fBindings⟩:Aa)) fun e=>bnd (U1 n b.fStarts a.fStarts) fun d=>bnd (Eo n ([f,e,d])) fun c=>some c
def Fa (n:Nat)(b:Bool):Option (Bool):=some b
def Wq (n:Nat)(a:A8):Option (Bool):=jon (Fa n)<|reg<|cnd (decide (0<=a.fTime)) (cnd (decide (a.fTime<=1099511627776)) (cnd (decide (0<=a.fSource)) (cnd (decide (a.fSource<8)) (cnd (decide (0<=a.fSeq)) (Fa n (decide (a.fSeq<=1099511627776)))<|Fa n false)<|Fa n false)<|Fa n false)<|Fa n false)<|Fa n false
def Jg (n:Nat)(a:A8):Option (Bp):=some (⟨a.fTime,a.fSource,a.fSeq⟩)
def N9 (n:Nat)(b:Bp)(a:Bp):Option (Int):=bnd (D1 n b.fTime a.fTime) fun f=>bnd (D1 n b.fSource a.fSource) fun e=>bnd (D1 n b.fSeq a.fSeq) fun d=>bnd (Eo n ([f,e,d])) fun c=>some c
def N2 (n:Nat)(b:Bf)(d:A8):Option (Bool):=bnd (Jg n d) fun a=>bnd (N9 n (⟨b.fRef.fTime,b.fRef.fSource,b.fRef.fSeq⟩:Bp) (⟨a.fTime,a.fSource,a.fSeq⟩:Bp)) fun c=>some (decide (0<=c))
def Oz (n:Nat)(e:A8)(a:(List Bf))(c:Option (Int)):Nat->Int->Option (Int) |0,_=>none |f+1,b=>cnd (decide (b<((a.map Az).length:Int))) (idx a b fun d=>bnd (N2 n (⟨d.fVar,⟨d.fRef.fTime,d.fRef.fSource,d.fRef.fSeq⟩⟩:Bf) e) fun g=>cnd (g) (some b)<|(Oz n e a c f) (aA .i64 (b+1)))<|c
def Ug (n:Nat)(a:(List Bf))(b:A8):Option (Int):=Oz n b a (some (-1)) n 0
def Tu (n:Nat)(c:(List Bf))(b:A8):Option (Bool):=bnd (Ug n c b) fun a=>some (decide (0<=a))
def zc9 (n:Nat)(c:A1)(b:A8):Option (Bool):=bnd (Tu n c.fBindings b) fun a=>some a
def N3 (n:Nat)(c:A1)(b:A8):Option (Bool):=bnd (zc9 n c b) fun a=>some a
def P0 (n:Nat)(d:A8)(a:(List A1))(c:Option (Int)):Nat->Int->Option (Int) |0,_=>none |e+1,b=>cnd (decide (b<((a.map A5).length:Int))) (idx a b fun f=>bnd (N3 n f d) fun g=>cnd (g) (some b)<|(P0 n d a c e) (aA .i64 (b+1)))<|c
def Uh (n:Nat)(a:(List A1))(b:A8):Option (Int):=P0 n b a (some (-1)) n 0
def Tv (n:Nat)(c:(List A1))(b:A8):Option (Bool):=bnd (Uh n c b) fun a=>some (decide (0<=a))
def Na (n:Nat)(d:(List A1))(a:A8):Option (Int):=bnd (Wq n a) fun c=>cnd (!(c)) (some 2)<|bnd (Tv n d a) fun b=>cnd (b) (some 14)<|some 0
attribute [irreducible] Ky Eh Fu I7 L9 Gn Cc Gu La Lb I8 E7 Ll I3 Dt Fq Gm Ms Mw Mx Jb H6 Ce My Mz Jc Ea Lx Iz Ly E8 G7 F7 I9 Gp Kz L0 L1 Ip Kk Kj Hv Gi Fn Kw Kv Kx K8 Hy K7 Lh Lg J3 H5 M1 Lz Fa
def Wn (n:Nat)(a:Int):Option (Bool):=some (!decide (a=a))
def Fb (n:Nat)(b:Int)(a:Int):Option (Int):=bnd (Wn n b) fun d=>bnd (Wn n a) fun c=>cnd (d) (cnd (c) (some 0)<|some (-1))<|cnd (c) (some 1)<|cnd (decide (b<a)) (some (-1))<|cnd (decide (a<b)) (some 1)<|some 0
def Sh (n:Nat)(a:(List Int))(b:Option (Int)):Nat->Int->Option (Int) |0,_=>none |d+1,c=>cnd (decide (c<((a.map aI).length:Int))) (idx a c fun e=>cnd (!decide (e=0)) (some e)<|(Sh n a b d) (aA .i64 (c+1)))<|b
def Ge (n:Nat)(a:(List Int)):Option (Int):=Sh n a (some 0) n 0
def Wl (n:Nat)(b:Bp)(a:Bp):Option (Int):=bnd (Fb n b.fTime a.fTime) fun f=>bnd (Fb n b.fSource a.fSource) fun e=>bnd (Fb n b.fSeq a.fSeq) fun d=>bnd (Ge n ([f,e,d])) fun c=>some c
def Vi (n:Nat)(b:Bf)(a:Bf):Option (Int):=bnd (Wl n b.fRef a.fRef) fun e=>bnd (Fb n b.fVar a.fVar) fun d=>bnd (Ge n ([e,d])) fun c=>some c
def P3 (n:Nat)(a:(List Bf))(h:(List Bf))(c:Option (Int)):Nat->Int->Option (Int) |0,_=>none |d+1,b=>cnd (decide (b<((h.map Az).length:Int))) (idx h b fun f=>cnd (decide (((a.map Az).length:Int)<=b)) (some 1)<|idx a b fun g=>bnd (Vi n f g) fun e=>cnd (!decide (e=0)) (some e)<|(P3 n a h c d) (aA .i64 (b+1)))<|c
def Uj (n:Nat)(b:(List Bf))(a:(List Bf)):Option (Int):=P3 n a b (cnd (decide (((b.map Az).length:Int)<((a.map Az).length:Int))) (some (-1))<|some 0) n 0
def W7 (n:Nat)(c:Aa)(b:Aa):Option (Int):=bnd (Uj n c.fBindings b.fBindings) fun a=>some a
def W5 (n:Nat)(b:Ak)(a:Ak):Option (Int):=bnd (Fb n b.fScope a.fScope) fun e=>bnd (Fb n b.fTime a.fTime) fun d=>bnd (Ge n ([e,d])) fun c=>some c
def Ob (n:Nat)(a:(List Ak))(h:(List Ak))(c:Option (Int)):Nat->Int->Option (Int) |0,_=>none |d+1,b=>cnd (decide (b<((h.map Ah).length:Int))) (idx h b fun f=>cnd (decide (((a.map Ah).length:Int)<=b)) (some 1)<|idx a b fun g=>bnd (W5 n f g) fun e=>cnd (!decide (e=0)) (some e)<|(Ob n a h c d) (aA .i64 (b+1)))<|c
def Tw (n:Nat)(b:(List Ak))(a:(List Ak)):Option (Int):=Ob n a b (cnd (decide (((b.map Ah).length:Int)<((a.map Ah).length:Int))) (some (-1))<|some 0) n 0
def z1t (n:Nat)(b:A1)(a:A1):Option (Int):=bnd (Fb n b.fState a.fState) fun f=>bnd (W7 n (⟨b.fBindings⟩:Aa) (⟨a.fBindings⟩:Aa)) fun e=>bnd (Tw n b.fStarts a.fStarts) fun d=>bnd (Ge n ([f,e,d])) fun c=>some c
noncomputable section
abbrev znv {n a b}:=li (Sh n a b) (fun c=>⟨[(3,aI 0),(6,.sl 1 (a.map aI)),(7,aI (((a.map aI).length:Int))),(8,aI c)],[]⟩) fun _ _=>Sh.eq_2 ..
abbrev z5o {n d a b}:=li (P3 n d a b) (fun c=>⟨[(0,.sl 4 (a.map Az)),(1,.sl 4 (d.map Az)),(2,.fn 130 []),(11,.sl 4 (a.map Az)),(12,aI (((a.map Az).length:Int))),(13,aI c)],[]⟩) fun _ _=>P3.eq_2 ..
abbrev z2r {n d a b}:=li (Ob n d a b) (fun c=>⟨[(0,.sl 2 (a.map Ah)),(1,.sl 2 (d.map Ah)),(2,.fn 204 []),(11,.sl 2 (a.map Ah)),(12,aI (((a.map Ah).length:Int))),(13,aI c)],[]⟩) fun _ _=>Ob.eq_2 ..
attribute [instance] znv z5o z2r
def zek (r:Bool):AV:=.bool (r)
theorem zic {n b r}(a:Wn n b=some r):Con E0d true 207 [aI b] (zek r):=by
 unfold Wn at a;refine aB _ aG rfl (Av aG rfl rfl) rfl (aE rfl) ?_;repeat' first
  |refine aC ?_;conv=>whnf
  |exact aD a
def Wf (r:Int):AV:=aI (r)
theorem z13 {n d c r}(b:Fb n d c=some r):Con E0d true 133 [aI d,aI c] (Wf r):=by
 unfold Fb at b;refine aB _ aH rfl (Av aH rfl rfl) rfl (aE rfl) ?_;repeat' first
  |refine aC ?_;conv=>whnf
  |refine A3.o b (fun b=>?_) fun b=>?_
  |refine aF b zek (fun a h=>zic h) (fun a b=>?_)
  |exact aD b
def X5 (r:Int):AV:=aI (r)
theorem z52 {n b r}(a:Ge n b=some r):Con E0d true 131 [.sl 1 (b.map aI)] (X5 r):=by
 unfold Ge at a;refine aB _ aJ rfl (Av aJ rfl rfl) rfl (aE rfl) ?_;repeat' first
  |refine aC ?_;conv=>whnf
  |refine A3.o a (fun a=>?_) fun a=>?_
  |refine IdxX.A a fun x a=>?_
  |exact ⟨_,a,LeX.a []⟩
  |refine Ap.I a (LeX.a []) fun m v a=>?_
  |exact aD a
def zd2 (r:Int):AV:=aI (r)
theorem zg0 {n d c r}(b:Wl n d c=some r):Con E0d true 132 [Bm d,Bm c] (zd2 r):=by
 unfold Wl at b;refine aB _ aK rfl (Av aK rfl rfl) rfl (aE rfl) ?_;repeat' first
  |refine aC ?_;conv=>whnf
  |refine aF b Wf (fun a h=>z13 h) (fun a b=>?_)
  |refine aF b X5 (fun a h=>z52 h) (fun a b=>?_)
  |refine AndA ?_
  |exact aD b
def z3n (r:Int):AV:=aI (r)
theorem zb4 {n d c r}(b:Vi n d c=some r):Con E0d true 130 [Az d,Az c] (z3n r):=by
 unfold Vi at b;refine aB _ aL rfl (Av aL rfl rfl) rfl (aE rfl) ?_;repeat' first
  |refine aC ?_;conv=>whnf
  |refine aF b zd2 (fun a h=>zg0 h) (fun a b=>?_)
  |refine aF b Wf (fun a h=>z13 h) (fun a b=>?_)
  |refine aF b X5 (fun a h=>z52 h) (fun a b=>?_)
  |refine AndA ?_
  |exact aD b
def z1z (r:Int):AV:=aI (r)
theorem z7n {n d c r}(b:Uj n d c=some r):Con E0d true 129 [.sl 4 (d.map Az),.sl 4 (c.map Az),.fn 130 []] (z1z r):=by
 unfold Uj at b;refine aB _ aM rfl (Av aM rfl rfl) rfl (aE rfl) ?_;repeat' first
  |refine aC ?_;conv=>whnf
  |refine A3.o b (fun b=>?_) fun b=>?_
  |refine IdxX.A b fun x b=>?_
  |refine aF b z3n (fun a h=>zb4 h) (fun a b=>?_)
  |exact ⟨_,b,LeX.a []⟩
  |refine Ap.I b (LeX.a []) fun m v b=>?_
  |exact aD b
def z7q (r:Int):AV:=aI (r)
theorem z3j {n d c r}(b:W7 n d c=some r):Con E0d true 64 [Ax d,Ax c] (z7q r):=by
 unfold W7 at b;refine aB _ aR rfl (Av aR rfl rfl) rfl (aE rfl) ?_;repeat' first
  |refine aC ?_;conv=>whnf
  |refine aF b z1z (fun a h=>z7n h) (fun a b=>?_)
  |exact aD b
def z7p (r:Int):AV:=aI (r)
theorem zdd {n d c r}(b:W5 n d c=some r):Con E0d true 204 [Ah d,Ah c] (z7p r):=by
 unfold W5 at b;refine aB _ aN rfl (Av aN rfl rfl) rfl (aE rfl) ?_;repeat' first
  |refine aC ?_;conv=>whnf
  |refine aF b Wf (fun a h=>z13 h) (fun a b=>?_)
  |refine aF b X5 (fun a h=>z52 h) (fun a b=>?_)
  |refine AndA ?_
  |exact aD b
def z1e (r:Int):AV:=aI (r)
theorem z3g {n d c r}(b:Tw n d c=some r):Con E0d true 203 [.sl 2 (d.map Ah),.sl 2 (c.map Ah),.fn 204 []] (z1e r):=by
 unfold Tw at b;refine aB _ aO rfl (Av aO rfl rfl) rfl (aE rfl) ?_;repeat' first
  |refine aC ?_;conv=>whnf
  |refine A3.o b (fun b=>?_) fun b=>?_
  |refine IdxX.A b fun x b=>?_
  |refine aF b z7p (fun a h=>zdd h) (fun a b=>?_)
  |exact ⟨_,b,LeX.a []⟩
  |refine Ap.I b (LeX.a []) fun m v b=>?_
  |exact aD b
def zim (r:Int):AV:=aI (r)
theorem zf6 {n d c r}(b:z1t n d c=some r):Con E0d true 125 [A5 d,A5 c] (zim r):=by
 unfold z1t at b;refine aB _ aP rfl (Av aP rfl rfl) rfl (aE rfl) ?_;repeat' first
  |refine aC ?_;conv=>whnf
  |refine aF b Wf (fun a h=>z13 h) (fun a b=>?_)
  |refine aF b z7q (fun a h=>z3j h) (fun a b=>?_)
  |refine aF b z1e (fun a h=>z3g h) (fun a b=>?_)
  |refine aF b X5 (fun a h=>z52 h) (fun a b=>?_)
  |refine AndA ?_
  |exact aD b
end
end Go.Proofs.YthbogefcfhmpgaaGreat
