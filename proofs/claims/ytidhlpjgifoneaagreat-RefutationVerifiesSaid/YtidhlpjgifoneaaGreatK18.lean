/- What some functions compute, over plain values. -/
import Derived.Test.YtidhlpjgifoneaaGreatK17
set_option linter.unusedVariables false
set_option linter.unusedSimpArgs false
set_option maxRecDepth 100000
set_option maxHeartbeats 8000000
namespace Go.Proofs.YtidhlpjgifoneaaGreat
open Go.RowKit
open IntKind renaming wrap->aA
structure Ab where
 fKind:Int
 fNum:Int
 fText:ByteArray
deriving DecidableEq,Inhabited
def Ag (x:Ab):AV:=.agg [aI (x.fKind),aI (x.fNum),.str (x.fText)]
abbrev Cd (x:Ab):List AV:=[aI (x.fKind),aI (x.fNum),.str (x.fText)]
structure B0 where
 fOp:Int
 fArgs:(List AV)
 fVar:Int
 fField:Int
 fKind:Int
 fValue:Ab
deriving Inhabited
def Av (x:B0):AV:=.agg [aI (x.fOp),.sl 8 (x.fArgs.map idA),aI (x.fVar),aI (x.fField),aI (x.fKind),aI (x.fValue.fKind),aI (x.fValue.fNum),.str (x.fValue.fText)]
abbrev Cm (x:B0):List AV:=[aI (x.fOp),.sl 8 (x.fArgs.map idA),aI (x.fVar),aI (x.fField),aI (x.fKind),aI (x.fValue.fKind),aI (x.fValue.fNum),.str (x.fValue.fText)]
def C3:AV->Option B0 |.agg [.int .i64 h,.sl 8 g,.int .i64 f,.int .i64 e,.int .i64 d,.int .i64 c,.int .i64 b,.str a]=>some ⟨h,g,f,e,d,⟨c,b,a⟩⟩ |_=>none
theorem D4 (a:AV)(y:B0)(h:C3 a=some y):a=Av y:=by
 unfold C3 at h;split at h
 ·injection h with h;subst h;simp [Av,aI,So]
 ·cases h
theorem Mw (y:B0):C3 (Av y)=some y:=by simp [C3,Av,aI,So]
def Kx (n:Nat)(b:B0->Int->Option (Int))(a:Int)(i:B0)(c:Int×Int)(d:Int->Option (Int))(e:(Int×Int)->Option (Int))(f:Bool):Option (Int):=cnd (f) (idxD C3 i.fArgs c.2 fun g=>bnd (b g a) fun h=>e ((aA .i64 (c.1+h)),(aA .i64 (c.2+1))))<|d c.1
def I5 (n:Nat)(b:B0->Int->Option (Int))(a:Int)(f:B0)(c:Int->Option (Int)):Nat->Int×Int->Option (Int) |0,_=>none |e+1,d=>jon (Kx n b a f d c (I5 n b a f c e))<|reg<|cnd (decide (d.2<((f.fArgs.map idA).length:Int))) (Kx n b a f d c (I5 n b a f c e) (decide (d.1<=a)))<|Kx n b a f d c (I5 n b a f c e) false
def Fv:Nat->B0->Int->Option (Int) |0,_,_=>none |n+1,c,a=>I5 n (Fv n) a c (fun b=>some b) n (1,0)
def Pp (n:Nat)(b:B0->Option (Int))(a:B0)(d:Int->Option (Int)):Nat->Int×Int->Option (Int) |0,_=>none |e+1,c=>cnd (decide (c.2<((a.fArgs.map idA).length:Int))) (idxD C3 a.fArgs c.2 fun f=>bnd (b f) fun g=>(Pp n b a d e) ((max c.1 g),(aA .i64 (c.2+1))))<|d c.1
def Fu:Nat->B0->Option (Int) |0,_=>none |n+1,a=>Pp n (Fu n) a (fun b=>some (aA .i64 (b+1))) n (0,0)
def Eg (n:Nat)(b:Bool):Option (Int):=cnd (b) (some 2)<|some (-1)
def Fo (n:Nat)(a:Int)(b:Bool):Option (Int):=cnd (b) (some 0)<|cnd (decide (a=12)) (some 1)<|jon (Eg n)<|reg<|cnd (decide (a=5)) (Eg n (decide (a=5)))<|reg<|cnd (decide (a=6)) (Eg n (decide (a=6)))<|reg<|cnd (decide (a=7)) (Eg n (decide (a=7)))<|reg<|cnd (decide (a=8)) (Eg n (decide (a=8)))<|reg<|cnd (decide (a=9)) (Eg n (decide (a=9)))<|reg<|cnd (decide (a=10)) (Eg n (decide (a=10)))<|Eg n (decide (a=11))
def U9 (n:Nat)(a:Int):Option (Int):=jon (Fo n a)<|reg<|cnd (decide (a=0)) (Fo n a (decide (a=0)))<|reg<|cnd (decide (a=1)) (Fo n a (decide (a=1)))<|reg<|cnd (decide (a=2)) (Fo n a (decide (a=2)))<|reg<|cnd (decide (a=3)) (Fo n a (decide (a=3)))<|Fo n a (decide (a=4))
def I8 (n:Nat)(b:Bool)(c:Bool):Option (Bool×Bool):=some (c,b)
def Lb (n:Nat)(a:Int)(b:Bool):Option (Bool×Bool):=jon (I8 n b)<|reg<|cnd (b) (I8 n b true)<|cnd (decide (a=2)) (I8 n b true)<|I8 n b (decide (a=3))
def R9 (n:Nat)(a:Int):Option (Bool×Bool):=jon (Lb n a)<|reg<|cnd (decide (a=1)) (Lb n a true)<|Lb n a (decide (a=4))
def H4 (n:Nat)(a:Ab):Option (Int):=cnd (decide (a.fKind<0)) (some 1)<|cnd (decide (2<a.fKind)) (some 1)<|cnd (decide (a.fKind=2)) (cnd (!decide (a.fNum=0)) (some 3)<|cnd (decide (64<((a.fText.size:Nat):Int))) (some 13)<|some 0)<|cnd (!(a.fText.toList == ByteArray.empty.toList)) (some 3)<|cnd (decide (a.fKind=1)) (cnd (decide (a.fNum<0)) (some 2)<|cnd (decide (1<a.fNum)) (some 2)<|cnd (decide (a.fNum<(-1099511627776))) (some 2)<|cnd (decide (1099511627776<a.fNum)) (some 2)<|some 0)<|cnd (decide (a.fNum<(-1099511627776))) (some 2)<|cnd (decide (1099511627776<a.fNum)) (some 2)<|some 0
def Gk (n:Nat)(b:Bool):Option (Bool):=some b
def M6 (n:Nat)(a:Int)(b:Ab):Option (Bool):=jon (Gk n)<|reg<|cnd (decide (b.fKind=0)) (Gk n true)<|cnd (decide (a=0)) (Gk n true)<|cnd (decide (a=4)) (Gk n true)<|Gk n (decide (a=5))
def Ca (n:Nat)(b:Bool):Option (Int):=cnd (b) (some 3)<|some 0
def Gr (n:Nat)(a:B0)(d:Bool×Bool)(b:Bool)(c:Bool):Option (Int):=cnd (c) (some 9)<|jon (Ca n)<|reg<|cnd (!(d.1)) (cnd (!decide (a.fVar=0)) (Ca n true)<|cnd (!(d.2)) (cnd (!decide (a.fField=0)) (Ca n true)<|cnd (!(decide (a.fOp=4))) (cnd (!decide (a.fKind=0)) (Ca n true)<|cnd (!(b)) (Ca n (!(decide (a.fValue.fKind=0) && (decide (a.fValue.fNum=0) && ((a.fValue.fText.toList == ByteArray.empty.toList) && true)))))<|Ca n false)<|cnd (!(b)) (Ca n (!(decide (a.fValue.fKind=0) && (decide (a.fValue.fNum=0) && ((a.fValue.fText.toList == ByteArray.empty.toList) && true)))))<|Ca n false)<|cnd (!(decide (a.fOp=4))) (cnd (!decide (a.fKind=0)) (Ca n true)<|cnd (!(b)) (Ca n (!(decide (a.fValue.fKind=0) && (decide (a.fValue.fNum=0) && ((a.fValue.fText.toList == ByteArray.empty.toList) && true)))))<|Ca n false)<|cnd (!(b)) (Ca n (!(decide (a.fValue.fKind=0) && (decide (a.fValue.fNum=0) && ((a.fValue.fText.toList == ByteArray.empty.toList) && true)))))<|Ca n false)<|cnd (!(d.2)) (cnd (!decide (a.fField=0)) (Ca n true)<|cnd (!(decide (a.fOp=4))) (cnd (!decide (a.fKind=0)) (Ca n true)<|cnd (!(b)) (Ca n (!(decide (a.fValue.fKind=0) && (decide (a.fValue.fNum=0) && ((a.fValue.fText.toList == ByteArray.empty.toList) && true)))))<|Ca n false)<|cnd (!(b)) (Ca n (!(decide (a.fValue.fKind=0) && (decide (a.fValue.fNum=0) && ((a.fValue.fText.toList == ByteArray.empty.toList) && true)))))<|Ca n false)<|cnd (!(decide (a.fOp=4))) (cnd (!decide (a.fKind=0)) (Ca n true)<|cnd (!(b)) (Ca n (!(decide (a.fValue.fKind=0) && (decide (a.fValue.fNum=0) && ((a.fValue.fText.toList == ByteArray.empty.toList) && true)))))<|Ca n false)<|cnd (!(b)) (Ca n (!(decide (a.fValue.fKind=0) && (decide (a.fValue.fNum=0) && ((a.fValue.fText.toList == ByteArray.empty.toList) && true)))))<|Ca n false
def Lc (n:Nat)(a:B0)(d:Bool×Bool)(b:Bool)(_:Unit):Option (Int):=jon (Gr n a d b)<|reg<|cnd (decide (a.fOp=4)) (bnd (M6 n a.fKind a.fValue) fun c=>cnd (!(c)) (Gr n a d b true)<|cnd (decide (a.fKind=1)) (Gr n a d b (!(decide (a.fValue.fKind=0) && (decide (a.fValue.fNum=0) && ((a.fValue.fText.toList == ByteArray.empty.toList) && true)))))<|Gr n a d b false)<|Gr n a d b false
def Ld (n:Nat)(a:B0)(d:Bool×Bool)(b:Bool):Option (Int):=jon (Lc n a d b)<|reg<|cnd (b) (bnd (H4 n a.fValue) fun c=>cnd (!decide (c=0)) (some c)<|Lc n a d b ())<|Lc n a d b ()
def I9 (n:Nat)(a:B0)(c:Bool×Bool)(b:Bool):Option (Int):=cnd (b) (some 1)<|jon (Ld n a c)<|reg<|cnd (decide (a.fOp=4)) (Ld n a c true)<|Ld n a c (decide (a.fOp=0))
def E1 (n:Nat)(a:B0)(c:Bool×Bool)(b:Bool):Option (Int):=cnd (b) (some 2)<|jon (I9 n a c)<|reg<|cnd (decide (a.fOp=4)) (cnd (decide (a.fKind<1)) (I9 n a c true)<|I9 n a c (decide (5<a.fKind)))<|I9 n a c false
def Uf (n:Nat)(a:B0):Option (Int):=bnd (U9 n a.fOp) fun c=>cnd (decide (c<0)) (some 1)<|cnd (!decide (((a.fArgs.map idA).length:Int)=c)) (some 15)<|bnd (R9 n a.fOp) fun b=>jon (E1 n a b)<|reg<|cnd (b.1) (cnd (decide (a.fVar<0)) (E1 n a b true)<|cnd (decide (16<=a.fVar)) (E1 n a b true)<|cnd (b.2) (cnd (decide (a.fField<0)) (E1 n a b true)<|E1 n a b (decide (8<=a.fField)))<|E1 n a b false)<|cnd (b.2) (cnd (decide (a.fField<0)) (E1 n a b true)<|E1 n a b (decide (8<=a.fField)))<|E1 n a b false
def Po (n:Nat)(b:B0->Option (Int))(a:B0)(c:Option (Int)):Nat->Int->Option (Int) |0,_=>none |e+1,d=>cnd (decide (d<((a.fArgs.map idA).length:Int))) (idxD C3 a.fArgs d fun g=>bnd (b g) fun f=>cnd (!decide (f=0)) (some f)<|(Po n b a c e) (aA .i64 (d+1)))<|c
def H3:Nat->B0->Option (Int) |0,_=>none |n+1,b=>bnd (Uf n b) fun a=>cnd (!decide (a=0)) (some a)<|Po n (H3 n) b (some 0) n 0
def Fw (n:Nat)(a:B0):Option (Int):=bnd (Fv n a 64) fun d=>cnd (decide (64<d)) (some 5)<|bnd (Fu n a) fun c=>cnd (decide (12<c)) (some 12)<|bnd (H3 n a) fun b=>some b
structure Bf where
 fScope:Int
 fType:Int
 fVar:Int
 fCond:B0
deriving Inhabited
def Bc (x:Bf):AV:=.agg [aI (x.fScope),aI (x.fType),aI (x.fVar),aI (x.fCond.fOp),.sl 8 (x.fCond.fArgs.map idA),aI (x.fCond.fVar),aI (x.fCond.fField),aI (x.fCond.fKind),aI (x.fCond.fValue.fKind),aI (x.fCond.fValue.fNum),.str (x.fCond.fValue.fText)]
abbrev Wa (x:Bf):List AV:=[aI (x.fScope),aI (x.fType),aI (x.fVar),aI (x.fCond.fOp),.sl 8 (x.fCond.fArgs.map idA),aI (x.fCond.fVar),aI (x.fCond.fField),aI (x.fCond.fKind),aI (x.fCond.fValue.fKind),aI (x.fCond.fValue.fNum),.str (x.fCond.fValue.fText)]
structure G4 where
 fGuards:(List Bf)
deriving Inhabited
def Ba (x:G4):AV:=.agg [.sl 11 (x.fGuards.map Bc)]
structure C4 where
 fScope:Int
 fSpan:Int
deriving DecidableEq,Inhabited
def Cc (x:C4):AV:=.agg [aI (x.fScope),aI (x.fSpan)]
abbrev Yy (x:C4):List AV:=[aI (x.fScope),aI (x.fSpan)]
structure B4 where
 fFrom:Int
 fTo:Int
 fVar:Int
 fType:Int
 fCond:B0
 fOpens:(List Int)
 fCloses:(List Int)
 fChecks:(List AV)
 fLimits:(List C4)
 fInside:(List Int)
deriving Inhabited
def B6 (x:B4):AV:=.agg [aI (x.fFrom),aI (x.fTo),aI (x.fVar),aI (x.fType),aI (x.fCond.fOp),.sl 8 (x.fCond.fArgs.map idA),aI (x.fCond.fVar),aI (x.fCond.fField),aI (x.fCond.fKind),aI (x.fCond.fValue.fKind),aI (x.fCond.fValue.fNum),.str (x.fCond.fValue.fText),.sl 1 (x.fOpens.map aI),.sl 1 (x.fCloses.map aI),.sl 8 (x.fChecks.map idA),.sl 2 (x.fLimits.map Cc),.sl 1 (x.fInside.map aI)]
abbrev C7 (x:B4):List AV:=[aI (x.fFrom),aI (x.fTo),aI (x.fVar),aI (x.fType),aI (x.fCond.fOp),.sl 8 (x.fCond.fArgs.map idA),aI (x.fCond.fVar),aI (x.fCond.fField),aI (x.fCond.fKind),aI (x.fCond.fValue.fKind),aI (x.fCond.fValue.fNum),.str (x.fCond.fValue.fText),.sl 1 (x.fOpens.map aI),.sl 1 (x.fCloses.map aI),.sl 8 (x.fChecks.map idA),.sl 2 (x.fLimits.map Cc),.sl 1 (x.fInside.map aI)]
structure Ah where
 fVars:Int
 fScopes:Int
 fStates:(List G4)
 fEdges:(List B4)
deriving Inhabited
def Bl (x:Ah):AV:=.agg [aI (x.fVars),aI (x.fScopes),.sl 1 (x.fStates.map Ba),.sl 17 (x.fEdges.map B6)]
abbrev B3 (x:Ah):List AV:=[aI (x.fVars),aI (x.fScopes),.sl 1 (x.fStates.map Ba),.sl 17 (x.fEdges.map B6)]
def Ls (n:Nat)(b:Bool):Option (Bool):=some b
def D3 (n:Nat)(a:Int)(b:Int):Option (Bool):=jon (Ls n)<|reg<|cnd (decide (a<0)) (Ls n true)<|Ls n (decide (b<a))
def P3 (n:Nat)(a:(List Bf))(h:Ah)(c:Int)(b:Option (Int)):Nat->Int->Option (Int) |0,_=>none |e+1,d=>cnd (decide (d<c)) (idx a d fun f=>idx a c fun g=>cnd (decide (f.fScope=g.fScope)) (some 7)<|(P3 n a h c b e) (aA .i64 (d+1)))<|b
def I1 (n:Nat)(a:(List Bf))(g:Ah)(b:Int)(c:Int->Option (Int))(e:Bool):Option (Int):=cnd (e) (some 2)<|P3 n a g b (idx a b fun f=>bnd (Fw n f.fCond) fun d=>cnd (!decide (d=0)) (some d)<|c (aA .i64 (b+1))) n 0
def Fl (n:Nat)(a:(List Bf))(i:Ah)(b:Option (Int)):Nat->Int->Option (Int) |0,_=>none |d+1,c=>cnd (decide (c<((a.map Bc).length:Int))) (jon (I1 n a i c (Fl n a i b d))<|reg<|idx a c fun e=>bnd (D3 n e.fScope (aA .i64 (i.fScopes-1))) fun f=>cnd (f) (I1 n a i c (Fl n a i b d) true)<|idx a c fun g=>bnd (D3 n g.fType 15) fun h=>cnd (h) (I1 n a i c (Fl n a i b d) true)<|idx a c fun j=>bnd (D3 n j.fVar (aA .i64 (i.fVars-1))) fun k=>I1 n a i c (Fl n a i b d) k)<|b
def U0 (n:Nat)(b:Ah)(a:(List Bf)):Option (Int):=cnd (decide (64<((a.map Bc).length:Int))) (some 5)<|Fl n a b (some 0) n 0
def P2 (n:Nat)(h:Int)(a:(List Int))(c:Int)(b:Option (Int)):Nat->Int->Option (Int) |0,_=>none |e+1,d=>cnd (decide (d<c)) (idx a d fun f=>idx a c fun g=>cnd (decide (f=g)) (some 7)<|(P2 n h a c b e) (aA .i64 (d+1)))<|b
def Kk (n:Nat)(g:Int)(a:(List Int))(c:Option (Int)):Nat->Int->Option (Int) |0,_=>none |d+1,b=>cnd (decide (b<((a.map aI).length:Int))) (idx a b fun e=>bnd (D3 n e (aA .i64 (g-1))) fun f=>cnd (f) (some 2)<|P2 n g a b ((Kk n g a c d) (aA .i64 (b+1))) n 0)<|c
def Qk (n:Nat)(b:(List Int))(a:Int):Option (Int):=Kk n a b (some 0) n 0
def Kt (n:Nat)(a:B4)(b:Option (Int)):Nat->Int->Option (Int) |0,_=>none |d+1,c=>cnd (decide (c<((a.fLimits.map Cc).length:Int))) (idx a.fLimits c fun e=>bnd (D3 n e.fSpan 1099511627776) fun f=>cnd (f) (some 2)<|(Kt n a b d) (aA .i64 (c+1)))<|b
def Gi (n:Nat)(a:B4)(h:Ah)(b:(List Int))(c:Option (Int)):Nat->Int->Option (Int) |0,_=>none |f+1,d=>cnd (decide (d<4)) (idx ([a.fOpens,a.fCloses,a.fInside,b]:List (List Int)) d fun g=>bnd (Qk n g h.fScopes) fun e=>cnd (!decide (e=0)) (some e)<|(Gi n a h b c f) (aA .i64 (d+1)))<|c
def Pj (n:Nat)(a:B4)(g:Ah)(c:(List Int)->Option (Int)):Nat->Int×(List Int)->Option (Int) |0,_=>none |d+1,b=>cnd (decide (b.1<((a.fLimits.map Cc).length:Int))) (idx a.fLimits b.1 fun e=>app b.2 [e.fScope] 8 fun f=>(Pj n a g c d) ((aA .i64 (b.1+1)),f))<|c b.2
def Qw (n:Nat)(c:Ah)(a:B4):Option (Int):=Pj n a c (fun b=>frz 7026<|reg<|Gi n a c b (Kt n a (some 0) n 0) n 0) n (0,[])
def Q7 (n:Nat)(a:B4)(g:Ah)(b:Option (Int)):Nat->Int->Option (Int) |0,_=>none |d+1,c=>cnd (decide (c<((a.fChecks.map idA).length:Int))) (idxD C3 a.fChecks c fun f=>bnd (Fw n f) fun e=>cnd (!decide (e=0)) (some e)<|(Q7 n a g b d) (aA .i64 (c+1)))<|b
def Dp (n:Nat)(f:Int)(a:B4)(e:Ah)(b:Bool):Option (Int):=cnd (b) (some 2)<|cnd (decide (a.fFrom<f)) (some 14)<|bnd (Fw n a.fCond) fun d=>cnd (!decide (d=0)) (some d)<|cnd (decide (64<((a.fChecks.map idA).length:Int))) (some 5)<|Q7 n a e (bnd (Qw n e a) fun c=>some c) n 0
def Ue (n:Nat)(h:Ah)(a:B4)(i:Int):Option (Int):=jon (Dp n i a h)<|reg<|bnd (D3 n a.fFrom (aA .i64 (((h.fStates.map Ba).length:Int)-1))) fun b=>cnd (b) (Dp n i a h true)<|cnd (!decide (a.fTo=(-1))) (bnd (D3 n a.fTo (aA .i64 (((h.fStates.map Ba).length:Int)-1))) fun c=>cnd (c) (Dp n i a h true)<|bnd (D3 n a.fVar (aA .i64 (h.fVars-1))) fun d=>cnd (d) (Dp n i a h true)<|bnd (D3 n a.fType 15) fun e=>Dp n i a h e)<|bnd (D3 n a.fVar (aA .i64 (h.fVars-1))) fun f=>cnd (f) (Dp n i a h true)<|bnd (D3 n a.fType 15) fun g=>Dp n i a h g
def Pk (n:Nat)(a:Ah)(c:Option (Int)):Nat->Int×Int->Option (Int) |0,_=>none |d+1,b=>cnd (decide (b.2<((a.fEdges.map B6).length:Int))) (idx a.fEdges b.2 fun f=>bnd (Ue n a f b.1) fun e=>cnd (!decide (e=0)) (some e)<|idx a.fEdges b.2 fun g=>(Pk n a c d) (g.fFrom,(aA .i64 (b.2+1))))<|c
def Pm (n:Nat)(a:Ah)(b:Option (Int)):Nat->Int->Option (Int) |0,_=>none |d+1,c=>cnd (decide (c<((a.fStates.map Ba).length:Int))) (idx a.fStates c fun f=>bnd (U0 n a f.fGuards) fun e=>cnd (!decide (e=0)) (some e)<|(Pm n a b d) (aA .i64 (c+1)))<|b
def Fm (n:Nat)(a:Ah)(b:Bool):Option (Int):=cnd (b) (some 5)<|Pm n a (Pk n a (some 0) n (0,0)) n 0
def Gj (n:Nat)(a:Ah)(b:Bool):Option (Int):=cnd (b) (some 2)<|jon (Fm n a)<|reg<|cnd (decide (((a.fStates.map Ba).length:Int)<1)) (Fm n a true)<|cnd (decide (256<((a.fStates.map Ba).length:Int))) (Fm n a true)<|Fm n a (decide (2048<((a.fEdges.map B6).length:Int)))
def Ir (n:Nat)(a:Ah):Option (Int):=jon (Gj n a)<|reg<|bnd (D3 n a.fVars 16) fun b=>cnd (b) (Gj n a true)<|bnd (D3 n a.fScopes 64) fun c=>Gj n a c
def S8 (n:Nat)(b:B0->Option (Int×Int))(a:B0)(d:Int->Int->Option (Int×Int)):Nat->Int×Int×Int->Option (Int×Int) |0,_=>none |e+1,c=>cnd (decide (c.2.2<((a.fArgs.map idA).length:Int))) (idxD C3 a.fArgs c.2.2 fun g=>bnd (b g) fun f=>(S8 n b a d e) ((aA .i64 (c.1+f.1)),(max c.2.1 f.2),(aA .i64 (c.2.2+1))))<|d c.1 c.2.1
def Hf:Nat->B0->Option (Int×Int) |0,_=>none |n+1,a=>S8 n (Hf n) a (fun b c=>some (b,(aA .i64 (c+1)))) n (1,0,0)
def Mz (n:Nat)(a:Int)(b:Bool):Option (Int×Bool):=cnd (b) (some (0,false))<|cnd (decide (a<5)) (some (0,true))<|cnd (decide (a=12)) (some (1,true))<|some (2,true)
def W8 (n:Nat)(a:Int):Option (Int×Bool):=jon (Mz n a)<|reg<|cnd (decide (a<0)) (Mz n a true)<|Mz n a (decide (12<a))
def N3 (n:Nat)(b:Bool):Option (Bool×Bool):=cnd (b) (some (true,false))<|some (false,false)
def N4 (n:Nat)(a:Int)(b:Bool):Option (Bool×Bool):=cnd (b) (some (true,true))<|jon (N3 n)<|reg<|cnd (decide (a=2)) (N3 n (decide (a=2)))<|N3 n (decide (a=3))
def Sd (n:Nat)(a:Int):Option (Bool×Bool):=jon (N4 n a)<|reg<|cnd (decide (a=1)) (N4 n a (decide (a=1)))<|N4 n a (decide (a=4))
def N7 (n:Nat)(a:Ab):Option (Int):=cnd (decide (a.fKind=0)) (cnd (decide (a.fNum<(-1099511627776))) (some 2)<|cnd (decide (1099511627776<a.fNum)) (some 2)<|cnd (decide (a.fKind=1)) (cnd (!decide (a.fNum=0)) (cnd (!decide (a.fNum=1)) (some 2)<|cnd (decide (64<((a.fText.size:Nat):Int))) (some 13)<|some 0)<|cnd (decide (64<((a.fText.size:Nat):Int))) (some 13)<|some 0)<|cnd (decide (64<((a.fText.size:Nat):Int))) (some 13)<|some 0)<|cnd (decide (a.fKind=1)) (cnd (!decide (a.fNum=0)) (cnd (!decide (a.fNum=1)) (some 2)<|cnd (decide (64<((a.fText.size:Nat):Int))) (some 13)<|some 0)<|cnd (decide (64<((a.fText.size:Nat):Int))) (some 13)<|some 0)<|cnd (decide (64<((a.fText.size:Nat):Int))) (some 13)<|some 0
def Hc (n:Nat)(a:Ab):Option (Int):=cnd (decide (a.fKind=0)) (cnd (decide (a.fKind=0)) (cnd (!(a.fText.toList == ByteArray.empty.toList)) (some 3)<|bnd (N7 n a) fun e=>some e)<|cnd (decide (a.fKind=2)) (cnd (!decide (a.fNum=0)) (some 3)<|bnd (N7 n a) fun d=>some d)<|some 1)<|cnd (decide (a.fKind=1)) (cnd (!(a.fText.toList == ByteArray.empty.toList)) (some 3)<|bnd (N7 n a) fun c=>some c)<|cnd (decide (a.fKind=2)) (cnd (!decide (a.fNum=0)) (some 3)<|bnd (N7 n a) fun b=>some b)<|some 1
def J9 (n:Nat)(b:Bool):Option (Bool):=some b
def W7 (n:Nat)(a:Int)(b:Ab):Option (Bool):=jon (J9 n)<|reg<|cnd (decide (b.fKind=0)) (J9 n true)<|cnd (decide (a=4)) (J9 n true)<|J9 n (decide (a=5))
def H9 (n:Nat)(b:Bool):Option (Int):=cnd (b) (some 9)<|some 0
def Vn (n:Nat)(a:B0):Option (Int):=bnd (Hc n a.fValue) fun b=>cnd (!decide (b=0)) (some b)<|jon (H9 n)<|reg<|cnd (decide (a.fOp=4)) (bnd (W7 n a.fKind a.fValue) fun c=>cnd (!(c)) (H9 n true)<|cnd (decide (a.fKind=1)) (H9 n (!(decide (a.fValue.fKind=0) && (decide (a.fValue.fNum=0) && ((a.fValue.fText.toList == ByteArray.empty.toList) && true)))))<|H9 n false)<|H9 n false
def Cb (n:Nat)(b:Bool):Option (Int):=cnd (b) (some 3)<|some 0
def N5 (n:Nat)(a:B0)(c:Bool×Bool)(b:Bool)(_:Unit):Option (Int):=jon (Cb n)<|reg<|cnd (!(c.1)) (cnd (!decide (a.fVar=0)) (Cb n true)<|cnd (!(c.2)) (cnd (!decide (a.fField=0)) (Cb n true)<|cnd (!(decide (a.fOp=4))) (cnd (!decide (a.fKind=0)) (Cb n true)<|cnd (!(b)) (Cb n (!(decide (a.fValue.fKind=0) && (decide (a.fValue.fNum=0) && ((a.fValue.fText.toList == ByteArray.empty.toList) && true)))))<|Cb n false)<|cnd (!(b)) (Cb n (!(decide (a.fValue.fKind=0) && (decide (a.fValue.fNum=0) && ((a.fValue.fText.toList == ByteArray.empty.toList) && true)))))<|Cb n false)<|cnd (!(decide (a.fOp=4))) (cnd (!decide (a.fKind=0)) (Cb n true)<|cnd (!(b)) (Cb n (!(decide (a.fValue.fKind=0) && (decide (a.fValue.fNum=0) && ((a.fValue.fText.toList == ByteArray.empty.toList) && true)))))<|Cb n false)<|cnd (!(b)) (Cb n (!(decide (a.fValue.fKind=0) && (decide (a.fValue.fNum=0) && ((a.fValue.fText.toList == ByteArray.empty.toList) && true)))))<|Cb n false)<|cnd (!(c.2)) (cnd (!decide (a.fField=0)) (Cb n true)<|cnd (!(decide (a.fOp=4))) (cnd (!decide (a.fKind=0)) (Cb n true)<|cnd (!(b)) (Cb n (!(decide (a.fValue.fKind=0) && (decide (a.fValue.fNum=0) && ((a.fValue.fText.toList == ByteArray.empty.toList) && true)))))<|Cb n false)<|cnd (!(b)) (Cb n (!(decide (a.fValue.fKind=0) && (decide (a.fValue.fNum=0) && ((a.fValue.fText.toList == ByteArray.empty.toList) && true)))))<|Cb n false)<|cnd (!(decide (a.fOp=4))) (cnd (!decide (a.fKind=0)) (Cb n true)<|cnd (!(b)) (Cb n (!(decide (a.fValue.fKind=0) && (decide (a.fValue.fNum=0) && ((a.fValue.fText.toList == ByteArray.empty.toList) && true)))))<|Cb n false)<|cnd (!(b)) (Cb n (!(decide (a.fValue.fKind=0) && (decide (a.fValue.fNum=0) && ((a.fValue.fText.toList == ByteArray.empty.toList) && true)))))<|Cb n false
def N6 (n:Nat)(a:B0)(c:Bool×Bool)(b:Bool):Option (Int):=jon (N5 n a c b)<|reg<|cnd (b) (bnd (Vn n a) fun d=>cnd (!decide (d=0)) (some d)<|N5 n a c b ())<|N5 n a c b ()
def Ja (n:Nat)(a:B0)(c:Bool×Bool)(b:Bool):Option (Int):=cnd (b) (some 1)<|jon (N6 n a c)<|reg<|cnd (decide (a.fOp=4)) (N6 n a c true)<|N6 n a c (decide (a.fOp=0))
def E7 (n:Nat)(a:B0)(c:Bool×Bool)(b:Bool):Option (Int):=cnd (b) (some 2)<|jon (Ja n a c)<|reg<|cnd (decide (a.fOp=4)) (cnd (decide (a.fKind<1)) (Ja n a c true)<|Ja n a c (decide (5<a.fKind)))<|Ja n a c false
def Wb (n:Nat)(a:B0):Option (Int):=bnd (W8 n a.fOp) fun c=>cnd (!(c.2)) (some 1)<|cnd (!decide (((a.fArgs.map idA).length:Int)=c.1)) (some 15)<|bnd (Sd n a.fOp) fun b=>jon (E7 n a b)<|reg<|cnd (b.1) (cnd (decide (a.fVar<0)) (E7 n a b true)<|cnd (decide (16<=a.fVar)) (E7 n a b true)<|cnd (b.2) (cnd (decide (a.fField<0)) (E7 n a b true)<|E7 n a b (decide (8<=a.fField)))<|E7 n a b false)<|cnd (b.2) (cnd (decide (a.fField<0)) (E7 n a b true)<|E7 n a b (decide (8<=a.fField)))<|E7 n a b false
def S3 (n:Nat)(b:B0->Option (Int))(a:B0)(c:Option (Int)):Nat->Int->Option (Int) |0,_=>none |e+1,d=>cnd (decide (d<((a.fArgs.map idA).length:Int))) (idxD C3 a.fArgs d fun g=>bnd (b g) fun f=>cnd (!decide (f=0)) (some f)<|(S3 n b a c e) (aA .i64 (d+1)))<|c
def Hd:Nat->B0->Option (Int) |0,_=>none |n+1,b=>bnd (Wb n b) fun a=>cnd (!decide (a=0)) (some a)<|S3 n (Hd n) b (some 0) n 0
def He (n:Nat)(b:B0):Option (Int):=bnd (Hf n b) fun a=>cnd (decide (64<a.1)) (some 5)<|cnd (decide (12<a.2)) (some 12)<|bnd (Hd n b) fun c=>some c
def M8 (n:Nat)(b:Bool):Option (Bool):=some b
def F5 (n:Nat)(a:Int)(b:Int):Option (Bool):=jon (M8 n)<|reg<|cnd (decide (0<=a)) (M8 n (decide (a<b)))<|M8 n false
def Rh (n:Nat)(b:Bf)(a:Bf):Option (Bool):=some (decide (b.fScope=a.fScope))
def R2 (n:Nat)(d:Bf)(a:(List Bf))(c:Option (Int)):Nat->Int->Option (Int) |0,_=>none |e+1,b=>cnd (decide (b<((a.map Bc).length:Int))) (idx a b fun f=>bnd (Rh n f d) fun g=>cnd (g) (some b)<|(R2 n d a c e) (aA .i64 (b+1)))<|c
def V8 (n:Nat)(a:(List Bf))(b:Bf):Option (Int):=R2 n b a (some (-1)) n 0
def R4 (n:Nat)(c:(List Bf))(b:Bf):Option (Bool):=bnd (V8 n c b) fun a=>some (decide (0<=a))
def Iw (n:Nat)(a:(List Bf))(i:Ah)(b:Int)(c:Int->Option (Int))(d:Bf)(f:Bool):Option (Int):=cnd (f) (some 2)<|sls a 0 b fun g=>bnd (R4 n g d) fun h=>cnd (h) (some 7)<|bnd (He n d.fCond) fun e=>cnd (!decide (e=0)) (some e)<|c (aA .i64 (b+1))
def Fx (n:Nat)(a:(List Bf))(i:Ah)(b:Option (Int)):Nat->Int->Option (Int) |0,_=>none |d+1,c=>cnd (decide (c<((a.map Bc).length:Int))) (idx a c fun e=>jon (Iw n a i c (Fx n a i b d) e)<|reg<|bnd (F5 n e.fScope i.fScopes) fun f=>cnd (!(f)) (Iw n a i c (Fx n a i b d) e true)<|bnd (F5 n e.fType 16) fun g=>cnd (!(g)) (Iw n a i c (Fx n a i b d) e true)<|bnd (F5 n e.fVar i.fVars) fun h=>Iw n a i c (Fx n a i b d) e !(h))<|b
def Vd (n:Nat)(b:Ah)(a:(List Bf)):Option (Int):=cnd (decide (64<((a.map Bc).length:Int))) (some 5)<|Fx n a b (some 0) n 0
def Qs (n:Nat)(a:(List C4))(c:(List Int)->Option ((List Int))):Nat->Int×(List Int)->Option ((List Int)) |0,_=>none |d+1,b=>cnd (decide (b.1<((a.map Cc).length:Int))) (idx a b.1 fun e=>app b.2 [e.fScope] 8 fun f=>(Qs n a c d) ((aA .i64 (b.1+1)),f))<|c b.2
def Rk (n:Nat)(a:(List C4)):Option ((List Int)):=Qs n a (fun b=>some b) n (0,[])
def Rq (n:Nat)(f:Int)(a:(List Int))(c:Option (Int)):Nat->Int->Option (Int) |0,_=>none |d+1,b=>cnd (decide (b<((a.map aI).length:Int))) (idx a b fun e=>cnd (decide (f=e)) (some b)<|(Rq n f a c d) (aA .i64 (b+1)))<|c
def Yq (n:Nat)(b:(List Int))(a:Int):Option (Int):=Rq n a b (some (-1)) n 0
def Hb (n:Nat)(c:(List Int))(b:Int):Option (Bool):=bnd (Yq n c b) fun a=>some (decide (0<=a))
def H5 (n:Nat)(i:(List (List Int)))(a:Ah)(g:Int)(d:(List Int))(c:Option (Int)):Nat->Int->Option (Int) |0,_=>none |e+1,b=>cnd (decide (b<((d.map aI).length:Int))) (idx d b fun f=>bnd (F5 n f a.fScopes) fun h=>cnd (!(h)) (some 2)<|sls d 0 b fun j=>bnd (Hb n j f) fun k=>cnd (k) (some 7)<|(H5 n i a g d c e) (aA .i64 (b+1)))<|c
def Iv (n:Nat)(a:(List (List Int)))(f:Ah)(c:Option (Int)):Nat->Int->Option (Int) |0,_=>none |d+1,b=>cnd (decide (b<(((List.map (fun q=>AV.sl 1 (List.map aI q)) (a)).length:Nat):Int))) (idx a b fun e=>H5 n a f b e ((Iv n a f c d) (aA .i64 (b+1))) n 0)<|c
def Vc (n:Nat)(b:Ah)(a:(List (List Int))):Option (Int):=Iv n a b (some 0) n 0
def M9 (n:Nat)(b:Bool):Option (Bool):=some b
def Mn (n:Nat)(a:C4):Option (Bool):=jon (M9 n)<|reg<|cnd (decide (a.fSpan<0)) (M9 n true)<|M9 n (decide (1099511627776<a.fSpan))
def P9 (n:Nat)(a:(List C4))(c:Option (Int)):Nat->Int->Option (Int) |0,_=>none |d+1,b=>cnd (decide (b<((a.map Cc).length:Int))) (idx a b fun e=>bnd (Mn n e) fun f=>cnd (f) (some b)<|(P9 n a c d) (aA .i64 (b+1)))<|c
def U4 (n:Nat)(a:(List C4)):Option (Int):=P9 n a (some (-1)) n 0
def Pa (n:Nat)(b:(List C4)):Option (Bool):=bnd (U4 n b) fun a=>some (decide (0<=a))
def Rl (n:Nat)(a:B4)(g:Ah)(b:Option (Int)):Nat->Int->Option (Int) |0,_=>none |d+1,c=>cnd (decide (c<((a.fChecks.map idA).length:Int))) (idxD C3 a.fChecks c fun f=>bnd (He n f) fun e=>cnd (!decide (e=0)) (some e)<|(Rl n a g b d) (aA .i64 (c+1)))<|b
def E5 (n:Nat)(h:Int)(a:B4)(g:Ah)(c:Bool):Option (Int):=cnd (c) (some 2)<|cnd (decide (a.fFrom<h)) (some 14)<|bnd (He n a.fCond) fun f=>cnd (!decide (f=0)) (some f)<|cnd (decide (64<((a.fChecks.map idA).length:Int))) (some 5)<|Rl n a g (bnd (Rk n a.fLimits) fun d=>bnd (Vc n g ([a.fOpens,a.fCloses,a.fInside,d])) fun b=>cnd (!decide (b=0)) (some b)<|bnd (Pa n a.fLimits) fun e=>cnd (e) (some 2)<|some 0) n 0
def Vo (n:Nat)(e:Ah)(a:B4)(f:Int):Option (Int):=jon (E5 n f a e)<|reg<|bnd (F5 n a.fFrom ((e.fStates.map Ba).length:Int)) fun b=>cnd (!(b)) (E5 n f a e true)<|cnd (decide (a.fTo<(-1))) (E5 n f a e true)<|cnd (decide (((e.fStates.map Ba).length:Int)<=a.fTo)) (E5 n f a e true)<|bnd (F5 n a.fVar e.fVars) fun c=>cnd (!(c)) (E5 n f a e true)<|bnd (F5 n a.fType 16) fun d=>E5 n f a e !(d)
def Ri (n:Nat)(a:Ah)(c:Option (Int)):Nat->Int×Int->Option (Int) |0,_=>none |d+1,b=>cnd (decide (b.2<((a.fEdges.map B6).length:Int))) (idx a.fEdges b.2 fun e=>bnd (Vo n a e b.1) fun f=>cnd (!decide (f=0)) (some f)<|(Ri n a c d) (e.fFrom,(aA .i64 (b.2+1))))<|c
def Rj (n:Nat)(a:Ah)(b:Option (Int)):Nat->Int->Option (Int) |0,_=>none |d+1,c=>cnd (decide (c<((a.fStates.map Ba).length:Int))) (idx a.fStates c fun f=>bnd (Vd n a f.fGuards) fun e=>cnd (!decide (e=0)) (some e)<|(Rj n a b d) (aA .i64 (c+1)))<|b
def Fz (n:Nat)(a:Ah)(b:Bool):Option (Int):=cnd (b) (some 5)<|Rj n a (Ri n a (some 0) n (0,0)) n 0
def F0 (n:Nat)(a:Ah)(b:Bool):Option (Int):=cnd (b) (some 2)<|jon (Fz n a)<|reg<|cnd (decide (((a.fStates.map Ba).length:Int)<1)) (Fz n a true)<|cnd (decide (256<((a.fStates.map Ba).length:Int))) (Fz n a true)<|Fz n a (decide (2048<((a.fEdges.map B6).length:Int)))
def Mt (n:Nat)(a:Ah):Option (Int):=jon (F0 n a)<|reg<|cnd (decide (a.fVars<0)) (F0 n a true)<|cnd (decide (16<a.fVars)) (F0 n a true)<|cnd (decide (a.fScopes<0)) (F0 n a true)<|F0 n a (decide (64<a.fScopes))
def Ia (n:Nat)(b:Bool):Option (Bool):=some b
def Rb (n:Nat)(a:Int):Option (Bool):=jon (Ia n)<|reg<|cnd (decide (0<=a)) (Ia n (decide (a<=5)))<|Ia n false
structure C2 where
 fKind:Int
 fCount:Int
 fValue:Ab
deriving DecidableEq,Inhabited
def E6 (x:C2):AV:=.agg [aI (x.fKind),aI (x.fCount),aI (x.fValue.fKind),aI (x.fValue.fNum),.str (x.fValue.fText)]
abbrev Vf (x:C2):List AV:=[aI (x.fKind),aI (x.fCount),aI (x.fValue.fKind),aI (x.fValue.fNum),.str (x.fValue.fText)]
def Gl (n:Nat)(b:Bool):Option (Int):=cnd (b) (some 3)<|some 0
def Ky (n:Nat)(b:Bool):Option (Int):=cnd (b) (some 3)<|some 0
def Kz (n:Nat)(a:C2)(b:Bool):Option (Int):=cnd (b) (cnd (!(decide (a.fValue.fKind=0) && (decide (a.fValue.fNum=0) && ((a.fValue.fText.toList == ByteArray.empty.toList) && true)))) (some 3)<|some 0)<|cnd (decide (a.fKind=1)) (jon (Gl n)<|reg<|cnd (!decide (a.fValue.fKind=0)) (Gl n true)<|cnd (!(a.fValue.fText.toList == ByteArray.empty.toList)) (Gl n true)<|cnd (decide (a.fValue.fNum<(aA .i64 (0-(aA .i64 (a.fCount*1099511627776)))))) (Gl n true)<|Gl n (decide ((aA .i64 (a.fCount*1099511627776))<a.fValue.fNum)))<|jon (Ky n)<|reg<|bnd (H4 n a.fValue) fun d=>cnd (!decide (d=0)) (Ky n true)<|bnd (M6 n a.fKind a.fValue) fun c=>Ky n !(c)
def L0 (n:Nat)(a:C2)(b:Bool):Option (Int):=cnd (b) (some 2)<|jon (Kz n a)<|reg<|cnd (decide (a.fCount=0)) (Kz n a true)<|Kz n a (decide (a.fKind=0))
def Qz (n:Nat)(a:C2):Option (Int):=bnd (Rb n a.fKind) fun b=>cnd (!(b)) (some 1)<|jon (L0 n a)<|reg<|cnd (decide (a.fCount<0)) (L0 n a true)<|L0 n a (decide (4096<a.fCount))
def Qx (n:Nat)(d:Int)(b:Ab):Option (Int):=bnd (H4 n b) fun a=>cnd (!decide (a=0)) (some a)<|bnd (M6 n d b) fun c=>cnd (!(c)) (some 9)<|some 0
def Tq (n:Nat)(a:Int)(c:Ab)(b:Ab):Option (Ab):=cnd (decide (a=1)) (some (⟨0,(aA .i64 (c.fNum+b.fNum)),ByteArray.empty⟩))<|cnd (decide (a=2)) (some (⟨0,(min c.fNum b.fNum),ByteArray.empty⟩))<|cnd (decide (a=3)) (some (⟨0,(max c.fNum b.fNum),ByteArray.empty⟩))<|cnd (decide (a=4)) (some c)<|cnd (decide (a=5)) (some b)<|some (⟨0,0,ByteArray.empty⟩)
def Io (n:Nat)(a:C2)(b:Int×Int×ByteArray):Option (C2×Int):=some (⟨a.fKind,(aA .i64 (a.fCount+1)),⟨b.1,b.2.1,b.2.2⟩⟩,0)
def Ut (n:Nat)(a:C2)(b:Ab):Option (C2×Int):=bnd (Qz n a) fun e=>cnd (!decide (e=0)) (some (⟨0,0,⟨0,0,ByteArray.empty⟩⟩,e))<|bnd (Qx n a.fKind b) fun d=>cnd (!decide (d=0)) (some (⟨0,0,⟨0,0,ByteArray.empty⟩⟩,d))<|cnd (decide (a.fCount=4096)) (some (⟨0,0,⟨0,0,ByteArray.empty⟩⟩,5))<|jon (Io n a)<|reg<|cnd (decide (a.fKind=0)) (Io n a (0,0,ByteArray.empty))<|reg<|cnd (decide (0<a.fCount)) (bnd (Tq n a.fKind a.fValue b) fun c=>Io n a (c.fKind,c.fNum,c.fText))<|Io n a (b.fKind,b.fNum,b.fText)
def Km (n:Nat)(a:Ab)(c:C2)(b:Bool):Option (Ab×Int):=cnd (b) (some (a,0))<|some (c.fValue,0)
def Qn (n:Nat)(a:C2)(b:Ab):Option (Ab×Int):=bnd (Qz n a) fun d=>cnd (!decide (d=0)) (some (⟨0,0,ByteArray.empty⟩,d))<|bnd (Qx n a.fKind b) fun c=>cnd (!decide (c=0)) (some (⟨0,0,ByteArray.empty⟩,c))<|cnd (decide (a.fKind=0)) (some (⟨0,a.fCount,ByteArray.empty⟩,0))<|jon (Km n b a)<|reg<|cnd (decide (a.fCount=0)) (Km n b a (!decide (a.fKind=1)))<|Km n b a false
def Qy (n:Nat)(g:Ab)(a:(List Ab))(d:Int->Int->Int->Int->ByteArray->Option (Ab×Int)):Nat->Int×Int×Int×Int×Int×ByteArray->Option (Ab×Int) |0,_=>none |e+1,b=>cnd (decide (b.1<((a.map Ag).length:Int))) (idx a b.1 fun f=>bnd (Ut n (⟨b.2.1,b.2.2.1,⟨b.2.2.2.1,b.2.2.2.2.1,b.2.2.2.2.2⟩⟩:C2) f) fun c=>cnd (!decide (c.2=0)) (some (⟨0,0,ByteArray.empty⟩,c.2))<|(Qy n g a d e) ((aA .i64 (b.1+1)),c.1.fKind,c.1.fCount,c.1.fValue.fKind,c.1.fValue.fNum,c.1.fValue.fText))<|d b.2.1 b.2.2.1 b.2.2.2.1 b.2.2.2.2.1 b.2.2.2.2.2
def Rn (n:Nat)(i:Int)(h:(List Ab))(a:Ab):Option (Ab×Int):=bnd (Rb n i) fun j=>cnd (!(j)) (some (⟨0,0,ByteArray.empty⟩,1))<|cnd (decide (4096<((h.map Ag).length:Int))) (some (⟨0,0,ByteArray.empty⟩,5))<|Qy n a h (fun b c d e f=>bnd (Qn n (⟨b,c,⟨d,e,f⟩⟩:C2) a) fun g=>some (g.1,g.2)) n (0,i,0,0,0,ByteArray.empty)
structure A8 where
 fSource:Int
 fSeq:Int
 fType:Int
 fTime:Int
 fValues:(List Ab)
deriving DecidableEq,Inhabited
def A7 (x:A8):AV:=.agg [aI (x.fSource),aI (x.fSeq),aI (x.fType),aI (x.fTime),.sl 3 (x.fValues.map Ag)]
abbrev Bw (x:A8):List AV:=[aI (x.fSource),aI (x.fSeq),aI (x.fType),aI (x.fTime),.sl 3 (x.fValues.map Ag)]
structure Ao where
 fVars:(List (List A8))
deriving DecidableEq,Inhabited
def Di (x:Ao):AV:=.agg [.sl 1 (List.map (fun q=>AV.sl 5 (List.map A7 q)) (x.fVars))]
abbrev Dj (x:Ao):List AV:=[.sl 1 (List.map (fun q=>AV.sl 5 (List.map A7 q)) (x.fVars))]
def Kl (n:Nat)(c:Int)(d:Ao)(b:Bool):Option ((List A8)):=cnd (b) (some [])<|idx d.fVars c fun a=>some a
def Lx (n:Nat)(b:Ao)(a:Int):Option ((List A8)):=jon (Kl n a b)<|reg<|cnd (decide (a<0)) (Kl n a b true)<|Kl n a b (decide ((((List.map (fun q=>AV.sl 5 (List.map A7 q)) (b.fVars)).length:Nat):Int)<=a))
def Y9 (n:Nat)(f:Ao)(b:Int)(e:Int)(d:A8):Option (A8×Bool):=cnd (decide (b=e)) (some (d,true))<|bnd (Lx n (⟨f.fVars⟩:Ao) b) fun a=>cnd (decide (((a.map A7).length:Int)=0)) (some (⟨0,0,0,0,[]⟩,false))<|idx a (aA .i64 (((a.map A7).length:Int)-1)) fun c=>some (c,true)
def Q8 (n:Nat)(i:B0)(a:(List A8))(c:(List Ab)->Option (Ab×Int)):Nat->Int×(List Ab)->Option (Ab×Int) |0,_=>none |d+1,b=>cnd (decide (b.1<((a.map A7).length:Int))) (idx a b.1 fun e=>cnd (decide (((e.fValues.map Ag).length:Int)<=i.fField)) (some (⟨0,0,ByteArray.empty⟩,6))<|idx a b.1 fun f=>idx f.fValues i.fField fun g=>app b.2 [g] 32 fun h=>(Q8 n i a c d) ((aA .i64 (b.1+1)),h))<|c b.2
def Ra (n:Nat)(a:B0)(h:Ao)(l:Int)(k:A8):Option (Ab×Int):=cnd (decide (a.fOp=0)) (some (a.fValue,0))<|cnd (decide (a.fOp=3)) (bnd (Lx n (⟨h.fVars⟩:Ao) a.fVar) fun j=>some (⟨0,((j.map A7).length:Int),ByteArray.empty⟩,0))<|cnd (decide (a.fOp=4)) (bnd (Lx n (⟨h.fVars⟩:Ao) a.fVar) fun i=>Q8 n a i (fun c=>bnd (Rn n a.fKind c a.fValue) fun d=>some (d.1,d.2)) n (0,[]))<|bnd (Y9 n (⟨h.fVars⟩:Ao) a.fVar l k) fun b=>cnd (!(b.2)) (some (⟨0,0,ByteArray.empty⟩,10))<|cnd (decide (a.fOp=2)) (some (⟨0,b.1.fTime,ByteArray.empty⟩,0))<|cnd (decide (((b.1.fValues.map Ag).length:Int)<=a.fField)) (some (⟨0,0,ByteArray.empty⟩,6))<|idx b.1.fValues a.fField fun f=>bnd (H4 n f) fun e=>cnd (!decide (e=0)) (some (⟨0,0,ByteArray.empty⟩,e))<|idx b.1.fValues a.fField fun g=>some (g,0)
def Hr (n:Nat)(b:Bool):Option (Int):=cnd (b) (some 1)<|some (-1)
def Ge (n:Nat)(a:Int)(b:Bool):Option (Int):=cnd (b) (some 0)<|jon (Hr n)<|reg<|cnd (decide (a=10)) (Hr n (decide (a=10)))<|reg<|cnd (decide (a=11)) (Hr n (decide (a=11)))<|Hr n (decide (a=12))
def Tm (n:Nat)(a:Int):Option (Int):=jon (Ge n a)<|reg<|cnd (decide (a=5)) (Ge n a (decide (a=5)))<|reg<|cnd (decide (a=6)) (Ge n a (decide (a=6)))<|reg<|cnd (decide (a=7)) (Ge n a (decide (a=7)))<|Ge n a (decide (a=8))
def Fj (n:Nat)(a:(List Int))(e:Int)(c:Int)(b:Int->Option (Int))(d:Bool):Option (Int):=cnd (d) (some 9)<|b (aA .i64 (c+1))
def Ex (n:Nat)(a:(List Int))(i:Int)(b:Option (Int)):Nat->Int->Option (Int) |0,_=>none |d+1,c=>cnd (decide (c<((a.map aI).length:Int))) (bnd (Tm n i) fun e=>jon (Fj n a i c (Ex n a i b d))<|reg<|cnd (decide (0<=e)) (idx a c fun f=>cnd (!decide (f=e)) (Fj n a i c (Ex n a i b d) true)<|cnd (decide (i=9)) (idx a c fun g=>idx a 0 fun h=>Fj n a i c (Ex n a i b d) (!decide (g=h)))<|Fj n a i c (Ex n a i b d) false)<|cnd (decide (i=9)) (idx a c fun j=>idx a 0 fun k=>Fj n a i c (Ex n a i b d) (!decide (j=k)))<|Fj n a i c (Ex n a i b d) false)<|b
def Xj (n:Nat)(b:Int)(a:(List Int)):Option (Int):=Ex n a b (some 0) n 0
def Dq (n:Nat)(a:Bool):Option (Ab):=cnd (a) (some (⟨1,1,ByteArray.empty⟩))<|some (⟨1,0,ByteArray.empty⟩)
def Kv (n:Nat)(b:Int×Int×ByteArray):Option (Ab):=some (⟨b.1,b.2.1,b.2.2⟩)
def Ku (n:Nat)(b:Int×Int×ByteArray):Option (Ab):=some (⟨b.1,b.2.1,b.2.2⟩)
def M5 (n:Nat)(i:Int)(a:(List Ab)):Option (Ab):=cnd (decide (i=5)) (idx a 0 fun z=>idx a 1 fun y=>some (⟨0,(aA .i64 (z.fNum+y.fNum)),ByteArray.empty⟩))<|cnd (decide (i=6)) (idx a 0 fun x=>idx a 1 fun w=>some (⟨0,(aA .i64 (x.fNum-w.fNum)),ByteArray.empty⟩))<|cnd (decide (i=7)) (idx a 0 fun v=>idx a 1 fun u=>bnd (Dq n (decide (v.fNum<u.fNum))) fun t=>some t)<|cnd (decide (i=8)) (idx a 0 fun r=>idx a 1 fun m=>bnd (Dq n (decide (r.fNum<=m.fNum))) fun h=>some h)<|cnd (decide (i=9)) (idx a 0 fun b=>idx a 1 fun c=>bnd (Dq n (decide (b.fKind=c.fKind) && (decide (b.fNum=c.fNum) && ((b.fText.toList == c.fText.toList) && true)))) fun j=>some j)<|cnd (decide (i=10)) (jon (Kv n)<|reg<|idx a 0 fun k=>cnd (decide (k.fNum=1)) (idx a 1 fun l=>bnd (Dq n (decide (l.fNum=1))) fun d=>Kv n (d.fKind,d.fNum,d.fText))<|bnd (Dq n false) fun e=>Kv n (e.fKind,e.fNum,e.fText))<|cnd (decide (i=11)) (jon (Ku n)<|reg<|idx a 0 fun o=>cnd (decide (o.fNum=1)) (bnd (Dq n true) fun f=>Ku n (f.fKind,f.fNum,f.fText))<|idx a 1 fun p=>bnd (Dq n (decide (p.fNum=1))) fun g=>Ku n (g.fKind,g.fNum,g.fText))<|idx a 0 fun q=>bnd (Dq n (!decide (q.fNum=1))) fun s=>some s
def Q9 (n:Nat)(b:B0->Ao->Int->A8->Option (Ab×Int))(i:A8)(k:Int)(l:Ao)(a:B0)(d:(List Ab)->(List Int)->Option (Ab×Int)):Nat->Int×(List Ab)×(List Int)->Option (Ab×Int) |0,_=>none |f+1,c=>cnd (decide (c.1<((a.fArgs.map idA).length:Int))) (idxD C3 a.fArgs c.1 fun g=>bnd (b g (⟨l.fVars⟩:Ao) k i) fun e=>cnd (!decide (e.2=0)) (some (⟨0,0,ByteArray.empty⟩,e.2))<|app c.2.1 [e.1] 32 fun h=>app c.2.2 [e.1.fKind] 8 fun j=>(Q9 n b i k l a d f) ((aA .i64 (c.1+1)),h,j))<|d c.2.1 c.2.2
def H7:Nat->B0->Ao->Int->A8->Option (Ab×Int) |0,_,_,_,_=>none |n+1,a,i,h,g=>cnd (decide (((a.fArgs.map idA).length:Int)=0)) (bnd (Ra n a (⟨i.fVars⟩:Ao) h g) fun f=>some (f.1,f.2))<|Q9 n (H7 n) g h i a (fun b c=>bnd (Xj n a.fOp c) fun d=>cnd (!decide (d=0)) (some (⟨0,0,ByteArray.empty⟩,d))<|bnd (M5 n a.fOp b) fun e=>some (e,0)) n (0,[],[])
def Ya (n:Nat)(c:B0)(f:Ao)(e:Int)(d:A8):Option (Ab×Int):=bnd (Fw n c) fun b=>cnd (!decide (b=0)) (some (⟨0,0,ByteArray.empty⟩,b))<|bnd (H7 n c (⟨f.fVars⟩:Ao) e d) fun a=>some (a.1,a.2)
def Kw (n:Nat)(b:Bool):Option (Bool):=some b
def Ft (n:Nat)(f:B0)(e:Ao)(d:Int)(c:A8):Option (Bool):=bnd (Ya n f (⟨e.fVars⟩:Ao) d c) fun a=>jon (Kw n)<|reg<|cnd (decide (a.2=0)) (bnd (Dq n true) fun b=>Kw n (decide (a.1.fKind=b.fKind) && (decide (a.1.fNum=b.fNum) && ((a.1.fText.toList == b.fText.toList) && true))))<|Kw n false
structure Bg where
 fTime:Int
 fSource:Int
 fSeq:Int
deriving DecidableEq,Inhabited
def Be (x:Bg):AV:=.agg [aI (x.fTime),aI (x.fSource),aI (x.fSeq)]
abbrev zya (x:Bg):List AV:=[aI (x.fTime),aI (x.fSource),aI (x.fSeq)]
structure B5 where
 fVar:Int
 fRef:Bg
deriving DecidableEq,Inhabited
def Ar (x:B5):AV:=.agg [aI (x.fVar),aI (x.fRef.fTime),aI (x.fRef.fSource),aI (x.fRef.fSeq)]
abbrev zjq (x:B5):List AV:=[aI (x.fVar),aI (x.fRef.fTime),aI (x.fRef.fSource),aI (x.fRef.fSeq)]
structure Ac where
 fBindings:(List B5)
deriving DecidableEq,Inhabited
def Au (x:Ac):AV:=.agg [.sl 4 (x.fBindings.map Ar)]
abbrev G3 (x:Ac):List AV:=[.sl 4 (x.fBindings.map Ar)]
def M7 (n:Nat)(b:Bg)(a:Bg):Option (Int):=cnd (!decide (b.fTime=a.fTime)) (cnd (decide (b.fTime<a.fTime)) (some (-1))<|some 1)<|cnd (!decide (b.fSource=a.fSource)) (cnd (decide (b.fSource<a.fSource)) (some (-1))<|some 1)<|cnd (decide (b.fSeq<a.fSeq)) (some (-1))<|cnd (decide (a.fSeq<b.fSeq)) (some 1)<|some 0
def U8 (n:Nat)(b:B5)(a:B5):Option (Int):=bnd (M7 n (⟨b.fRef.fTime,b.fRef.fSource,b.fRef.fSeq⟩:Bg) (⟨a.fRef.fTime,a.fRef.fSource,a.fRef.fSeq⟩:Bg)) fun c=>cnd (!decide (c=0)) (some c)<|cnd (decide (b.fVar<a.fVar)) (some (-1))<|cnd (decide (a.fVar<b.fVar)) (some 1)<|some 0
def K7 (n:Nat)(a:Ac)(i:Ac)(b:Int)(e:Option (Int))(f:Int->Option (Int))(h:Bool):Option (Int):=cnd (h) (idx i.fBindings b fun c=>idx a.fBindings b fun d=>bnd (U8 n (⟨c.fVar,⟨c.fRef.fTime,c.fRef.fSource,c.fRef.fSeq⟩⟩:B5) (⟨d.fVar,⟨d.fRef.fTime,d.fRef.fSource,d.fRef.fSeq⟩⟩:B5)) fun g=>cnd (!decide (g=0)) (some g)<|f (aA .i64 (b+1)))<|e
def Hv (n:Nat)(a:Ac)(e:Ac)(b:Option (Int)):Nat->Int->Option (Int) |0,_=>none |d+1,c=>jon (K7 n a e c b (Hv n a e b d))<|reg<|cnd (decide (c<((e.fBindings.map Ar).length:Int))) (K7 n a e c b (Hv n a e b d) (decide (c<((a.fBindings.map Ar).length:Int))))<|K7 n a e c b (Hv n a e b d) false
def La (n:Nat)(b:Ac)(a:Ac):Option (Int):=Hv n a b (cnd (decide (((b.fBindings.map Ar).length:Int)<((a.fBindings.map Ar).length:Int))) (some (-1))<|cnd (decide (((a.fBindings.map Ar).length:Int)<((b.fBindings.map Ar).length:Int))) (some 1)<|some 0) n 0
structure Ak where
 fScope:Int
 fTime:Int
deriving DecidableEq,Inhabited
def Ad (x:Ak):AV:=.agg [aI (x.fScope),aI (x.fTime)]
abbrev zal (x:Ak):List AV:=[aI (x.fScope),aI (x.fTime)]
structure A0 where
 fState:Int
 fBindings:(List B5)
 fStarts:(List Ak)
deriving DecidableEq,Inhabited
def A4 (x:A0):AV:=.agg [aI (x.fState),.sl 4 (x.fBindings.map Ar),.sl 2 (x.fStarts.map Ad)]
abbrev Bi (x:A0):List AV:=[aI (x.fState),.sl 4 (x.fBindings.map Ar),.sl 2 (x.fStarts.map Ad)]
def Hu (n:Nat)(a:A0)(g:A0)(e:Int)(b:Int->Option (Int))(c:Ak)(d:Ak)(f:Bool):Option (Int):=cnd (f) (some (-1))<|cnd (!(decide (c.fScope=d.fScope) && (decide (c.fTime=d.fTime) && true))) (some 1)<|b (aA .i64 (e+1))
def K6 (n:Nat)(a:A0)(h:A0)(b:Int)(f:Option (Int))(c:Int->Option (Int))(g:Bool):Option (Int):=cnd (g) (idx h.fStarts b fun d=>idx a.fStarts b fun e=>jon (Hu n a h b c d e)<|reg<|cnd (decide (d.fScope<e.fScope)) (Hu n a h b c d e true)<|cnd (decide (d.fScope=e.fScope)) (Hu n a h b c d e (decide (d.fTime<e.fTime)))<|Hu n a h b c d e false)<|f
def Ht (n:Nat)(a:A0)(e:A0)(b:Option (Int)):Nat->Int->Option (Int) |0,_=>none |d+1,c=>jon (K6 n a e c b (Ht n a e b d))<|reg<|cnd (decide (c<((e.fStarts.map Ad).length:Int))) (K6 n a e c b (Ht n a e b d) (decide (c<((a.fStarts.map Ad).length:Int))))<|K6 n a e c b (Ht n a e b d) false
def L6 (n:Nat)(b:A0)(a:A0):Option (Int):=cnd (!decide (b.fState=a.fState)) (cnd (decide (b.fState<a.fState)) (some (-1))<|some 1)<|bnd (La n (⟨b.fBindings⟩:Ac) (⟨a.fBindings⟩:Ac)) fun c=>cnd (!decide (c=0)) (some c)<|Ht n a b (cnd (decide (((b.fStarts.map Ad).length:Int)<((a.fStarts.map Ad).length:Int))) (some (-1))<|cnd (decide (((a.fStarts.map Ad).length:Int)<((b.fStarts.map Ad).length:Int))) (some 1)<|some 0) n 0
def Lo (n:Nat)(i:A0)(a:(List A0))(b:Int)(c:Bool):Option ((List A0)):=cnd (c) (some a)<|sls a 0 b fun d=>app ([]:List A0) d 56 fun e=>app e [i] 56 fun f=>sls a b ((a.map A4).length:Int) fun g=>app f g 56 fun h=>some h
def Ln (n:Nat)(a:A0)(f:(List A0))(b:Int)(c:Int->Option ((List A0)))(d:Int->Option ((List A0)))(e:Bool):Option ((List A0)):=cnd (e) (d (aA .i64 (b+1)))<|c b
def Ih (n:Nat)(g:A0)(a:(List A0))(b:Int->Option ((List A0))):Nat->Int->Option ((List A0)) |0,_=>none |d+1,c=>jon (Ln n g a c b (Ih n g a b d))<|reg<|cnd (decide (c<((a.map A4).length:Int))) (idx a c fun e=>bnd (L6 n e g) fun f=>Ln n g a c b (Ih n g a b d) (decide (f<0)))<|Ln n g a c b (Ih n g a b d) false
def Mf (n:Nat)(a:(List A0))(e:A0):Option ((List A0)):=Ih n e a (fun b=>jon (Lo n e a b)<|reg<|cnd (decide (b<((a.map A4).length:Int))) (idx a b fun c=>bnd (L6 n c e) fun d=>Lo n e a b (decide (d=0)))<|Lo n e a b false) n 0
def J1 (n:Nat)(b:Bool):Option (Bool):=some b
def Rx (n:Nat)(a:Int):Option (Bool):=jon (J1 n)<|reg<|cnd (decide (0<=a)) (J1 n (decide (a<=5)))<|J1 n false
def H8 (n:Nat)(b:Bool):Option (Bool):=some b
def Rw (n:Nat)(a:Int)(b:Ab):Option (Bool):=jon (H8 n)<|reg<|cnd (decide (b.fKind=0)) (H8 n true)<|cnd (!decide (a=1)) (cnd (!decide (a=2)) (H8 n (!decide (a=3)))<|H8 n false)<|H8 n false
def Mu (n:Nat)(d:Int)(b:Ab):Option (Int):=bnd (Hc n b) fun a=>cnd (!decide (a=0)) (some a)<|bnd (Rw n d b) fun c=>cnd (!(c)) (some 9)<|some 0
def Yg (n:Nat)(b:Int)(a:Ab):Option (Ab):=cnd (decide (b=0)) (some (⟨0,0,ByteArray.empty⟩))<|some a
def Y7 (n:Nat):Option (Ab):=some (⟨0,0,ByteArray.empty⟩)
def Y6 (n:Nat)(b:Ab)(a:Ab):Option (Ab×Ab×Ab):=some (⟨0,(aA .i64 (b.fNum+a.fNum)),ByteArray.empty⟩,b,a)
def Y5 (n:Nat)(b:Ab)(a:Ab):Option (Ab×Ab×Ab):=some (⟨0,(min b.fNum a.fNum),ByteArray.empty⟩,b,a)
def Y4 (n:Nat)(b:Ab)(a:Ab):Option (Ab×Ab×Ab):=some (⟨0,(max b.fNum a.fNum),ByteArray.empty⟩,b,a)
def Y3 (n:Nat)(a:Ab):Option (Ab×Ab):=some (a,a)
def Y2 (n:Nat)(a:Ab):Option (Ab×Ab):=some (a,a)
def V6 (n:Nat)(a:Int)(c:Ab)(b:Ab):Option (Ab):=natc a 0 (bnd (Y7 n) fun i=>some i)<|natc a 1 (bndM 15 (Y6 n c b) fun h=>some h.1)<|natc a 2 (bndM 15 (Y5 n c b) fun g=>some g.1)<|natc a 3 (bndM 15 (Y4 n c b) fun f=>some f.1)<|natc a 4 (bndM 15 (Y3 n c) fun e=>some e.1)<|natc a 5 (bndM 15 (Y2 n b) fun d=>some d.1)<|none
def Yh (n:Nat)(a:C2)(b:C2):Option (C2):=cnd (decide (a.fCount=0)) (some b)<|cnd (decide (b.fCount=0)) (some a)<|bnd (V6 n a.fKind a.fValue b.fValue) fun c=>some (⟨a.fKind,(aA .i64 (a.fCount+b.fCount)),c⟩)
def Ym (n:Nat)(e:C2)(d:Ab)(a:Int):Option (C2):=bnd (Yg n a d) fun c=>bnd (Yh n e (⟨a,1,c⟩:C2)) fun b=>some b
def R8 (n:Nat)(e:Int)(a:(List Ab))(c:Int->Int->Int->Int->ByteArray->Option (C2)):Nat->Int×Int×Int×Int×Int×ByteArray->Option (C2) |0,_=>none |f+1,b=>cnd (decide (b.1<((a.map Ag).length:Int))) (idx a b.1 fun g=>bnd (Ym n (⟨b.2.1,b.2.2.1,⟨b.2.2.2.1,b.2.2.2.2.1,b.2.2.2.2.2⟩⟩:C2) g e) fun d=>(R8 n e a c f) ((aA .i64 (b.1+1)),d.fKind,d.fCount,d.fValue.fKind,d.fValue.fNum,d.fValue.fText))<|c b.2.1 b.2.2.1 b.2.2.2.1 b.2.2.2.2.1 b.2.2.2.2.2
def Ve (n:Nat)(a:C2)(h:(List Ab))(g:Int):Option (C2):=R8 n g h (fun b c d e f=>some (⟨b,c,⟨d,e,f⟩⟩)) n (0,a.fKind,a.fCount,a.fValue.fKind,a.fValue.fNum,a.fValue.fText)
def Me (n:Nat)(a:C2)(b:Bool):Option (Int):=cnd (b) (some 2)<|reg<|cnd (decide (a.fCount=0)) (cnd (!((decide (a.fValue.fKind=0) && (decide (a.fValue.fNum=0) && ((a.fValue.fText.toList == ByteArray.empty.toList) && true))))) (some 3)<|some 0)<|cnd (decide (a.fKind=0)) (cnd (!((decide (a.fValue.fKind=0) && (decide (a.fValue.fNum=0) && ((a.fValue.fText.toList == ByteArray.empty.toList) && true))))) (some 3)<|some 0)<|reg<|cnd (decide (a.fKind=1)) (reg<|cnd (decide (a.fValue.fKind=0)) (cnd ((a.fValue.fText.toList == ByteArray.empty.toList)) (cnd (decide ((aA .i64 (0-(aA .i64 (a.fCount*1099511627776))))<=a.fValue.fNum)) (cnd (!(decide (a.fValue.fNum<=(aA .i64 (a.fCount*1099511627776))))) (some 3)<|some 0)<|some 3)<|some 3)<|some 3)<|reg<|bnd (Hc n a.fValue) fun d=>cnd (decide (d=0)) (bnd (Rw n a.fKind a.fValue) fun c=>cnd (!(c)) (some 3)<|some 0)<|some 3
def Vm (n:Nat)(a:C2):Option (Int):=bnd (Rx n a.fKind) fun b=>cnd (!(b)) (some 1)<|jon (Me n a)<|reg<|cnd (decide (a.fCount<0)) (Me n a true)<|Me n a (decide (4096<a.fCount))
def Mb (n:Nat)(a:Ab)(c:C2)(b:Bool):Option (Ab×Int):=cnd (b) (some (a,0))<|some (c.fValue,0)
def Ro (n:Nat)(a:C2)(b:Ab):Option (Ab×Int):=bnd (Vm n a) fun d=>cnd (!decide (d=0)) (some (⟨0,0,ByteArray.empty⟩,d))<|bnd (Mu n a.fKind b) fun c=>cnd (!decide (c=0)) (some (⟨0,0,ByteArray.empty⟩,c))<|cnd (decide (a.fKind=0)) (some (⟨0,a.fCount,ByteArray.empty⟩,0))<|jon (Mb n b a)<|reg<|cnd (decide (a.fCount=0)) (Mb n b a (!decide (a.fKind=1)))<|Mb n b a false
def Ry (n:Nat)(h:Ab)(a:(List Ab))(g:Int)(b:Option (Ab×Int)):Nat->Int->Option (Ab×Int) |0,_=>none |d+1,c=>cnd (decide (c<((a.map Ag).length:Int))) (idx a c fun f=>bnd (Mu n g f) fun e=>cnd (!decide (e=0)) (some (⟨0,0,ByteArray.empty⟩,e))<|(Ry n h a g b d) (aA .i64 (c+1)))<|b
def S9 (n:Nat)(a:Int)(d:(List Ab))(e:Ab):Option (Ab×Int):=bnd (Rx n a) fun f=>cnd (!(f)) (some (⟨0,0,ByteArray.empty⟩,1))<|cnd (decide (4096<((d.map Ag).length:Int))) (some (⟨0,0,ByteArray.empty⟩,5))<|Ry n e d a (bnd (Ve n (⟨a,0,⟨0,0,ByteArray.empty⟩⟩:C2) d a) fun c=>bnd (Ro n c e) fun b=>some (b.1,b.2)) n 0
def Wd (n:Nat)(a:Int):Option (Bool):=some (!decide (a=a))
def Cy (n:Nat)(b:Int)(a:Int):Option (Int):=bnd (Wd n b) fun d=>bnd (Wd n a) fun c=>cnd (d) (cnd (c) (some 0)<|some (-1))<|cnd (c) (some 1)<|cnd (decide (b<a)) (some (-1))<|cnd (decide (a<b)) (some 1)<|some 0
def Se (n:Nat)(a:(List Int))(b:Option (Int)):Nat->Int->Option (Int) |0,_=>none |d+1,c=>cnd (decide (c<((a.map aI).length:Int))) (idx a c fun e=>cnd (!decide (e=0)) (some e)<|(Se n a b d) (aA .i64 (c+1)))<|b
def Em (n:Nat)(a:(List Int)):Option (Int):=Se n a (some 0) n 0
def W6 (n:Nat)(b:Bg)(a:Bg):Option (Int):=bnd (Cy n b.fTime a.fTime) fun f=>bnd (Cy n b.fSource a.fSource) fun e=>bnd (Cy n b.fSeq a.fSeq) fun d=>bnd (Em n ([f,e,d])) fun c=>some c
def Vl (n:Nat)(b:B5)(a:B5):Option (Int):=bnd (W6 n (⟨b.fRef.fTime,b.fRef.fSource,b.fRef.fSeq⟩:Bg) (⟨a.fRef.fTime,a.fRef.fSource,a.fRef.fSeq⟩:Bg)) fun e=>bnd (Cy n b.fVar a.fVar) fun d=>bnd (Em n ([e,d])) fun c=>some c
def Qa (n:Nat)(a:(List B5))(h:(List B5))(c:Option (Int)):Nat->Int->Option (Int) |0,_=>none |f+1,b=>cnd (decide (b<((h.map Ar).length:Int))) (idx h b fun d=>cnd (decide (((a.map Ar).length:Int)<=b)) (some 1)<|idx a b fun e=>bnd (Vl n (⟨d.fVar,⟨d.fRef.fTime,d.fRef.fSource,d.fRef.fSeq⟩⟩:B5) (⟨e.fVar,⟨e.fRef.fTime,e.fRef.fSource,e.fRef.fSeq⟩⟩:B5)) fun g=>cnd (!decide (g=0)) (some g)<|(Qa n a h c f) (aA .i64 (b+1)))<|c
def Ug (n:Nat)(b:(List B5))(a:(List B5)):Option (Int):=Qa n a b (cnd (decide (((b.map Ar).length:Int)<((a.map Ar).length:Int))) (some (-1))<|some 0) n 0
def S2 (n:Nat)(c:Ac)(b:Ac):Option (Int):=bnd (Ug n c.fBindings b.fBindings) fun a=>some a
def Vs (n:Nat)(b:Ak)(a:Ak):Option (Int):=bnd (Cy n b.fScope a.fScope) fun e=>bnd (Cy n b.fTime a.fTime) fun d=>bnd (Em n ([e,d])) fun c=>some c
def Og (n:Nat)(a:(List Ak))(h:(List Ak))(c:Option (Int)):Nat->Int->Option (Int) |0,_=>none |d+1,b=>cnd (decide (b<((h.map Ad).length:Int))) (idx h b fun f=>cnd (decide (((a.map Ad).length:Int)<=b)) (some 1)<|idx a b fun g=>bnd (Vs n f g) fun e=>cnd (!decide (e=0)) (some e)<|(Og n a h c d) (aA .i64 (b+1)))<|c
def Tn (n:Nat)(b:(List Ak))(a:(List Ak)):Option (Int):=Og n a b (cnd (decide (((b.map Ad).length:Int)<((a.map Ad).length:Int))) (some (-1))<|some 0) n 0
def Vw (n:Nat)(b:A0)(a:A0):Option (Int):=bnd (Cy n b.fState a.fState) fun f=>bnd (S2 n (⟨b.fBindings⟩:Ac) (⟨a.fBindings⟩:Ac)) fun e=>bnd (Tn n b.fStarts a.fStarts) fun d=>bnd (Em n ([f,e,d])) fun c=>some c
def F6 (n:Nat)(b:Bool):Option (Bool):=some b
def W3 (n:Nat)(a:A8):Option (Bool):=jon (F6 n)<|reg<|cnd (decide (0<=a.fTime)) (cnd (decide (a.fTime<=1099511627776)) (cnd (decide (0<=a.fSource)) (cnd (decide (a.fSource<8)) (cnd (decide (0<=a.fSeq)) (F6 n (decide (a.fSeq<=1099511627776)))<|F6 n false)<|F6 n false)<|F6 n false)<|F6 n false)<|F6 n false
def Jf (n:Nat)(a:A8):Option (Bg):=some (⟨a.fTime,a.fSource,a.fSeq⟩)
def Nh (n:Nat)(b:Bg)(a:Bg):Option (Int):=bnd (Cy n b.fTime a.fTime) fun f=>bnd (Cy n b.fSource a.fSource) fun e=>bnd (Cy n b.fSeq a.fSeq) fun d=>bnd (Em n ([f,e,d])) fun c=>some c
def N8 (n:Nat)(b:B5)(d:A8):Option (Bool):=bnd (Jf n d) fun a=>bnd (Nh n (⟨b.fRef.fTime,b.fRef.fSource,b.fRef.fSeq⟩:Bg) (⟨a.fTime,a.fSource,a.fSeq⟩:Bg)) fun c=>some (decide (0<=c))
def P7 (n:Nat)(e:A8)(a:(List B5))(c:Option (Int)):Nat->Int->Option (Int) |0,_=>none |f+1,b=>cnd (decide (b<((a.map Ar).length:Int))) (idx a b fun d=>bnd (N8 n (⟨d.fVar,⟨d.fRef.fTime,d.fRef.fSource,d.fRef.fSeq⟩⟩:B5) e) fun g=>cnd (g) (some b)<|(P7 n e a c f) (aA .i64 (b+1)))<|c
def U2 (n:Nat)(a:(List B5))(b:A8):Option (Int):=P7 n b a (some (-1)) n 0
def Tf (n:Nat)(c:(List B5))(b:A8):Option (Bool):=bnd (U2 n c b) fun a=>some (decide (0<=a))
def Z9 (n:Nat)(c:A0)(b:A8):Option (Bool):=bnd (Tf n c.fBindings b) fun a=>some a
def N9 (n:Nat)(c:A0)(b:A8):Option (Bool):=bnd (Z9 n c b) fun a=>some a
def P8 (n:Nat)(d:A8)(a:(List A0))(c:Option (Int)):Nat->Int->Option (Int) |0,_=>none |e+1,b=>cnd (decide (b<((a.map A4).length:Int))) (idx a b fun f=>bnd (N9 n f d) fun g=>cnd (g) (some b)<|(P8 n d a c e) (aA .i64 (b+1)))<|c
def U3 (n:Nat)(a:(List A0))(b:A8):Option (Int):=P8 n b a (some (-1)) n 0
def Tg (n:Nat)(c:(List A0))(b:A8):Option (Bool):=bnd (U3 n c b) fun a=>some (decide (0<=a))
def Ni (n:Nat)(d:(List A0))(a:A8):Option (Int):=bnd (W3 n a) fun c=>cnd (!(c)) (some 2)<|bnd (Tg n d a) fun b=>cnd (b) (some 14)<|some 0
attribute [irreducible] Kx Eg Fo I8 Lb Gk Ca Gr Lc Ld I9 E1 Ls I1 Dp Fm Gj Mz N3 N4 J9 H9 Cb N5 N6 Ja E7 M8 Iw M9 E5 Fz F0 Ia Gl Ky Kz L0 Io Km Kl Hr Ge Fj Kv Ku Kw K7 Hu K6 Lo Ln J1 H8 Me Mb F6
end Go.Proofs.YtidhlpjgifoneaaGreat
