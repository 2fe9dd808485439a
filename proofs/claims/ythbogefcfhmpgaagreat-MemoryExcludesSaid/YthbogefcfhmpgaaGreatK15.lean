/- What some functions compute, over plain values. -/
import Derived.Test.YthbogefcfhmpgaaGreatK13
import Derived.Test.YthbogefcfhmpgaaGreatK14
set_option linter.unusedVariables false
set_option linter.unusedSimpArgs false
set_option maxRecDepth 100000
set_option maxHeartbeats 8000000
namespace Go.Proofs.YthbogefcfhmpgaaGreat
open Go.RowKit
open IntKind renaming wrap->aA
def Xv (n:Nat)(a0:Ct)(a1:Ct):Option (Bool) :=
 bnd (z7n n a0 a1) fun x1 =>
 some (decide (x1=0))
def U9 (n:Nat)(c:Nat)(d:Int->(List Ct)->Option ((List Ct))):Nat->Int×Int×(List Ct)->Option ((List Ct))
 |0,_=>none
 |e+1,b =>
  gle c (b.2.2.map E7).length <|
  cnd (decide (b.2.1<((((b.2.2.map E7).length-c:Nat)):Int)))
   (nat b.2.1 ((b.2.2.map E7).length-c) fun g =>
   elt b.2.2 (c+g) fun h =>
   nat (aA .i64 (b.2.1-1)) ((b.2.2.map E7).length-c) fun j =>
   elt b.2.2 (c+j) fun k =>
   bnd (Xv n h k) fun l =>
   cnd (!(l))
    (nat b.2.1 ((b.2.2.map E7).length-c) fun o =>
    elt b.2.2 (c+o) fun p =>
    nat b.1 (b.2.2.map E7).length fun q =>
    stx b.2.2 q (fun s=>p) fun f =>
    (U9 n c d e) ((aA .i64 (b.1+1)),(aA .i64 (b.2.1+1)),f))
   <| (U9 n c d e) (b.1,(aA .i64 (b.2.1+1)),b.2.2))
  <| d b.1 b.2.2
def z26 (n:Nat)(m0:(List Ct))(e:Option ((List Ct))):Nat->Int->Option ((List Ct))
 |0,_=>none
 |f+1,b =>
  cnd (decide (b<((m0.map E7).length:Int)))
   (nat b (m0.map E7).length fun g =>
   elt m0 g fun h =>
   nat (aA .i64 (b-1)) (m0.map E7).length fun j =>
   elt m0 j fun k =>
   bnd (Xv n h k) fun l =>
   cnd (l)
    (nle b (m0.map E7).length fun o =>
    U9 n o
     (fun c d=>nle c (d.map E7).length fun p =>
    clr d p (⟨0,[],[]⟩:Ct) fun q =>
    sls q 0 c fun s =>
    some s) n (b,1,m0))
   <| (z26 n m0 e f) (aA .i64 (b+1)))
  <| e
structure ze5 where
 fSets:(List (List Ct))
deriving DecidableEq,Inhabited
structure Ps where
 fName:ByteArray
 fKind:Int
deriving DecidableEq,Inhabited
def Cu (x:Ps):AV:=.agg [.str (x.fName),aI (x.fKind)]
abbrev zb9 (x:Ps):List AV:=[.str (x.fName),aI (x.fKind)]
structure Aw where
 fName:ByteArray
 fFields:(List Ps)
deriving DecidableEq,Inhabited
def Ap (x:Aw):AV:=.agg [.str (x.fName),.sl 2 (x.fFields.map Cu)]
structure Bm where
 fVerdict:Int
 fBound:Int
 fPrefix:(List Au)
 fPeriod:Int
deriving DecidableEq,Inhabited
def J9 (n:Nat)(b:Bool):Option (Bool) :=
 some b
def Fw (n:Nat)(a0:Int):Option (Bool) :=
 jon (J9 n) <|
 reg <| cnd (decide (48<=a0))
  (J9 n (decide (a0<=57)))
 <| J9 n false
def E3 (n:Nat)(b:Bool):Option (Bool) :=
 some b
def M6 (n:Nat)(a0:Int):Option (Bool) :=
 jon (E3 n) <|
 reg <| cnd (decide (a0=95))
  (E3 n true)
 <| cnd (decide (97<=a0))
  (cnd (decide (a0<=122))
    (E3 n true)
  <| cnd (decide (65<=a0))
   (E3 n (decide (a0<=90)))
  <| E3 n false)
 <| cnd (decide (65<=a0))
  (E3 n (decide (a0<=90)))
 <| E3 n false
def E5 (n:Nat)(a0:ByteArray)(c:Int)(b:Int->Option (Bool))(d:Bool):Option (Bool) :=
 cnd (d)
  (some false)
 <| b (aA .i64 (c+1))
def Df (n:Nat)(a0:ByteArray)(b:Option (Bool)):Nat->Int->Option (Bool)
 |0,_=>none
 |d+1,c =>
  cnd (decide (c<((a0.size:Nat):Int)))
   (jon (E5 n a0 c (Df n a0 b d)) <|
   reg <| idb a0 c fun e =>
   bnd (M6 n e) fun f =>
   cnd (!(f))
    (idb a0 c fun g =>
    bnd (Fw n g) fun h =>
    E5 n a0 c (Df n a0 b d) !(h))
   <| E5 n a0 c (Df n a0 b d) false)
  <| b
def Dg (n:Nat)(a0:ByteArray)(b:Bool):Option (Bool) :=
 cnd (b)
  (some false)
 <| Df n a0
  (some true) n 0
def Md (n:Nat)(a0:ByteArray):Option (Bool) :=
 jon (Dg n a0) <|
 reg <| cnd (decide (((a0.size:Nat):Int)=0))
  (Dg n a0 true)
 <| cnd (decide (24<((a0.size:Nat):Int)))
  (Dg n a0 true)
 <| idb a0 0 fun b =>
 bnd (Fw n b) fun c =>
 Dg n a0 c
def Io (n:Nat)(b:Bool):Option (Bool) :=
 some b
def Ox (n:Nat)(a0:ByteArray):Option (Bool) :=
 jon (Io n) <|
 reg <| bnd (Md n a0) fun x3 =>
 cnd (x3)
  (Io n (!(a0.toList == (ByteArray.mk #[116,105,109,101]).toList)))
 <| Io n false
def H9 (n:Nat)(a0:Aw)(b:Int×(List (ByteArray×Bool)))(c:(Int×(List (ByteArray×Bool)))->Option (Int))(e:Ps)(d:Bool):Option (Int) :=
 cnd (d)
  (some 1)
 <| mst b.2 e.fName true fun f =>
 c ((aA .i64 (b.1+1)),f)
def Fp (n:Nat)(a0:Aw)(b:Option (Int)):Nat->Int×(List (ByteArray×Bool))->Option (Int)
 |0,_=>none
 |e+1,c =>
  cnd (decide (c.1<((a0.fFields.map Cu).length:Int)))
   (idx a0.fFields c.1 fun d =>
   bnd (Ox n d.fName) fun f =>
   cnd (!(f))
    (some 8)
   <| mgt c.2 d.fName (false:Bool) fun g h =>
   cnd (g)
    (some 7)
   <| jon (H9 n a0 c (Fp n a0 b e) d) <|
   reg <| cnd (decide (d.fKind<0))
    (H9 n a0 c (Fp n a0 b e) d true)
   <| H9 n a0 c (Fp n a0 b e) d (decide (3<=d.fKind)))
  <| b
def Pg (n:Nat)(a0:Aw):Option (Int) :=
 bnd (Md n a0.fName) fun x1 =>
 cnd (!(x1))
  (some 8)
 <| cnd (decide (8<((a0.fFields.map Cu).length:Int)))
  (some 5)
 <| Fp n a0
  (some 0) n (0,[])
def Ln (n:Nat)(a0:(List Aw))(c:Option (Int)):Nat->Int×(List (ByteArray×Bool))->Option (Int)
 |0,_=>none
 |e+1,b =>
  cnd (decide (b.1<((a0.map Ap).length:Int)))
   (idx a0 b.1 fun d =>
   bnd (Pg n d) fun f =>
   cnd (!decide (f=0))
    (some f)
   <| mgt b.2 d.fName (false:Bool) fun g j =>
   cnd (g)
    (some 7)
   <| mst b.2 d.fName true fun h =>
   (Ln n a0 c e) ((aA .i64 (b.1+1)),h))
  <| c
def D6 (n:Nat)(a0:(List Aw)):Option (Int) :=
 cnd (decide (16<((a0.map Ap).length:Int)))
  (some 5)
 <| Ln n a0
  (some 0) n (0,[])
def Ja (n:Nat)(b:Bool):Option (Int) :=
 cnd (b)
  (some 2)
 <| some 0
def Fx (n:Nat)(a0:(List Aw))(a1:A8)(a2:Int):Option (Int) :=
 bnd (D6 n a0) fun x1 =>
 cnd (!decide (x1=0))
  (some x1)
 <| bnd (C3 n a1) fun x2 =>
 cnd (!decide (x2=0))
  (some x2)
 <| jon (Ja n) <|
 reg <| cnd (decide (a2<1))
  (Ja n true)
 <| Ja n (decide (4096<a2))
structure Bq where
 freachable:(List (Int×Bool))
 finner:(List (Int×Bool))
deriving DecidableEq,Inhabited
def Il (n:Nat)(a1:Int)(a0:A8)(c:(List Int)->Option ((List Int))):Nat->Int×(List Int)->Option ((List Int))
 |0,_=>none
 |d+1,b =>
  cnd (decide (b.1<((a0.fEdges.map A5).length:Int)))
   (idx a0.fEdges b.1 fun e =>
   reg <| cnd (decide (e.fFrom=a1))
    (app b.2 [b.1] 8 fun f =>
    (Il n a1 a0 c d) ((aA .i64 (b.1+1)),f))
   <| (Il n a1 a0 c d) ((aA .i64 (b.1+1)),b.2))
  <| c b.2
def Ot (n:Nat)(a0:A8)(a1:Int):Option ((List Int)) :=
 Il n a1 a0
  (fun b=>some b) n (0,[])
def Hr (n:Nat)(a1:A8)(x1:(List Int))(c:(List Int)->Option ((List Int))):Nat->Int×(List Int)->Option ((List Int))
 |0,_=>none
 |d+1,b =>
  cnd (decide (b.1<((x1.map aI).length:Int)))
   (idx x1 b.1 fun f =>
   idx a1.fEdges f fun e =>
   reg <| cnd (decide (0<=e.fTo))
    (app b.2 [e.fTo] 8 fun g =>
    (Hr n a1 x1 c d) ((aA .i64 (b.1+1)),g))
   <| (Hr n a1 x1 c d) ((aA .i64 (b.1+1)),b.2))
  <| c b.2
def Nz (n:Nat)(a0:Int)(a1:A8):Option ((List Int)) :=
 bnd (Ot n a1 a0) fun x1 =>
 Hr n a1 x1
  (fun b=>some b) n (0,[])
def Lg (n:Nat)(b:Int->A8->(List Bool)->Option ((List Bool)))(a2bc0:A8)(x6:(List Int))(d:(List Bool)->Option ((List Bool))):Nat->Int×(List Bool)->Option ((List Bool))
 |0,_=>none
 |e+1,c =>
  cnd (decide (c.1<((x6.map aI).length:Int)))
   (idx x6 c.1 fun f =>
   bndM 24 (b f a2bc0 c.2) fun g =>
   (Lg n b a2bc0 x6 d e) ((aA .i64 (c.1+1)),g))
  <| d c.2
def J0:Nat->Int->A8->(List Bool)->Option ((List Bool))
 |0,_,_,_=>none
 |n+1,a0,a2bc0,m0 =>
 nat a0 (m0.map AV.bool).length fun x1 =>
 elt m0 x1 fun x2 =>
 cnd (x2)
  (some m0)
 <| nat a0 (m0.map AV.bool).length fun x3 =>
 stx m0 x3 (fun x4=>true) fun x5 =>
 bnd (Nz n a0 a2bc0) fun x6 =>
 Lg n (J0 n) a2bc0 x6
  (fun b=>some b) n (0,x5)
def Lr (n:Nat)(d:A8)(a1:(List Int))(c:(List Bool)->Option ((List Bool))):Nat->Int×(List Bool)->Option ((List Bool))
 |0,_=>none
 |e+1,b =>
  cnd (decide (b.1<((a1.map aI).length:Int)))
   (idx a1 b.1 fun f =>
   reg <| bndM 24 (J0 n f d b.2) fun g =>
   (Lr n d a1 c e) ((aA .i64 (b.1+1)),g))
  <| c b.2
def P3 (n:Nat)(a0:A8)(a1:(List Int))(c:A8):Option ((List Bool)) :=
 mak ((a0.fStates.map Al).length:Int) 1 (false:Bool) fun x1 =>
 Lr n c a1
  (fun b=>some b) n (0,x1)
def Ru (n:Nat)(a0:A8):Option ((List Bool)) :=
 frb 1 <| reg <| bnd (P3 n a0 [0] a0) fun x1 =>
 some x1
def Ik (n:Nat)(a0:(List Bool))(c:(List Int)->Option ((List Int))):Nat->Int×(List Int)->Option ((List Int))
 |0,_=>none
 |d+1,b =>
  cnd (decide (b.1<((a0.map AV.bool).length:Int)))
   (idx a0 b.1 fun e =>
   reg <| cnd (e)
    (app b.2 [b.1] 8 fun f =>
    (Ik n a0 c d) ((aA .i64 (b.1+1)),f))
   <| (Ik n a0 c d) ((aA .i64 (b.1+1)),b.2))
  <| c b.2
def Oq (n:Nat)(a0:(List Bool)):Option ((List Int)) :=
 Ik n a0
  (fun b=>some b) n (0,[])
def O9 (n:Nat)(a0:A8):Option ((List Int)×Int) :=
 bnd (C3 n a0) fun x1 =>
 cnd (!decide (x1=0))
  (some ([],x1))
 <| bnd (Ru n a0) fun x2 =>
 bnd (Oq n x2) fun x3 =>
 some (x3,0)
def Ic (n:Nat)(a1:A8)(a0:Int)(c:(List Int)->Option ((List Int))):Nat->Int×(List Int)->Option ((List Int))
 |0,_=>none
 |d+1,b =>
  cnd (decide (b.1<((a1.fEdges.map A5).length:Int)))
   (idx a1.fEdges b.1 fun e =>
   reg <| cnd (decide (e.fTo=a0))
    (app b.2 [e.fFrom] 8 fun f =>
    (Ic n a1 a0 c d) ((aA .i64 (b.1+1)),f))
   <| (Ic n a1 a0 c d) ((aA .i64 (b.1+1)),b.2))
  <| c b.2
def S6 (n:Nat)(a0:Int)(a1:A8):Option ((List Int)) :=
 Ic n a1 a0
  (fun b=>some b) n (0,[])
def Ke (n:Nat)(b:Int->A8->(List Bool)->Option ((List Bool)))(a2bc0:A8)(x6:(List Int))(d:(List Bool)->Option ((List Bool))):Nat->Int×(List Bool)->Option ((List Bool))
 |0,_=>none
 |e+1,c =>
  cnd (decide (c.1<((x6.map aI).length:Int)))
   (idx x6 c.1 fun f =>
   bndM 24 (b f a2bc0 c.2) fun g =>
   (Ke n b a2bc0 x6 d e) ((aA .i64 (c.1+1)),g))
  <| d c.2
def I4:Nat->Int->A8->(List Bool)->Option ((List Bool))
 |0,_,_,_=>none
 |n+1,a0,a2bc0,m0 =>
 nat a0 (m0.map AV.bool).length fun x1 =>
 elt m0 x1 fun x2 =>
 cnd (x2)
  (some m0)
 <| nat a0 (m0.map AV.bool).length fun x3 =>
 stx m0 x3 (fun x4=>true) fun x5 =>
 bnd (S6 n a0 a2bc0) fun x6 =>
 Ke n (I4 n) a2bc0 x6
  (fun b=>some b) n (0,x5)
def Kv (n:Nat)(d:A8)(a1:(List Int))(c:(List Bool)->Option ((List Bool))):Nat->Int×(List Bool)->Option ((List Bool))
 |0,_=>none
 |e+1,b =>
  cnd (decide (b.1<((a1.map aI).length:Int)))
   (idx a1 b.1 fun f =>
   reg <| bndM 24 (I4 n f d b.2) fun g =>
   (Kv n d a1 c e) ((aA .i64 (b.1+1)),g))
  <| c b.2
def Lf (n:Nat)(a0:A8)(a1:(List Int))(c:A8):Option ((List Bool)) :=
 mak ((a0.fStates.map Al).length:Int) 1 (false:Bool) fun x1 =>
 Kv n c a1
  (fun b=>some b) n (0,x1)
def Ir (n:Nat)(a0:A8)(c:(List Int)->Option ((List Bool))):Nat->Int×(List Int)->Option ((List Bool))
 |0,_=>none
 |d+1,b =>
  cnd (decide (b.1<((a0.fEdges.map A5).length:Int)))
   (idx a0.fEdges b.1 fun e =>
   reg <| cnd (decide (e.fTo<0))
    (app b.2 [e.fFrom] 8 fun f =>
    (Ir n a0 c d) ((aA .i64 (b.1+1)),f))
   <| (Ir n a0 c d) ((aA .i64 (b.1+1)),b.2))
  <| c b.2
def Sa (n:Nat)(a0:A8):Option ((List Bool)) :=
 Ir n a0
  (fun b=>frz 7020 <| frb 1 <| reg <| bnd (Lf n a0 b a0) fun c =>
 some c) n (0,[])
def P1 (n:Nat)(a0:A8):Option ((List Int)×Int) :=
 bnd (C3 n a0) fun x1 =>
 cnd (!decide (x1=0))
  (some ([],x1))
 <| bnd (Sa n a0) fun x2 =>
 bnd (Oq n x2) fun x3 =>
 some (x3,0)
def M9 (n:Nat)(a0:(List Int))(c:(List (Int×Bool))->Option ((List (Int×Bool)))):Nat->Int×(List (Int×Bool))->Option ((List (Int×Bool)))
 |0,_=>none
 |d+1,b =>
  cnd (decide (b.1<((a0.map aI).length:Int)))
   (idx a0 b.1 fun e =>
   mst b.2 e true fun f =>
   (M9 n a0 c d) ((aA .i64 (b.1+1)),f))
  <| c b.2
def Pu (n:Nat)(a0:(List Int)):Option ((List (Int×Bool))) :=
 M9 n a0
  (fun b=>some b) n (0,[])
def Fq (n:Nat)(a0:A8)(x3:(List (Int×Bool)))(x4:(List (Int×Bool)))(c:(List (Int×Bool))->(List (Int×Bool))->Option (Bq)):Nat->Int×(List (Int×Bool))->Option (Bq)
 |0,_=>none
 |d+1,b =>
  cnd (decide (b.1<((a0.fEdges.map A5).length:Int)))
   (idx a0.fEdges b.1 fun e =>
   reg <| cnd (decide (0<=e.fTo))
    (mgv x3 e.fFrom (false:Bool) fun f j =>
    cnd (f)
     (mgv x4 e.fTo (false:Bool) fun g k =>
     cnd (g)
      (mst b.2 e.fTo true fun h =>
      (Fq n a0 x3 x4 c d) ((aA .i64 (b.1+1)),h))
     <| (Fq n a0 x3 x4 c d) ((aA .i64 (b.1+1)),b.2))
    <| (Fq n a0 x3 x4 c d) ((aA .i64 (b.1+1)),b.2))
   <| (Fq n a0 x3 x4 c d) ((aA .i64 (b.1+1)),b.2))
  <| c x3 b.2
def M8 (n:Nat)(a0:A8):Option (Bq) :=
 bnd (O9 n a0) fun x1 =>
 bnd (P1 n a0) fun x2 =>
 bnd (Pu n x1.1) fun x3 =>
 bnd (Pu n x2.1) fun x4 =>
 Fq n a0 x3 x4
  (fun b c=>some (⟨b,c⟩)) n (0,[])
def Ei (n:Nat)(a3:(List (List (Int×Bool))))(a2:Ac)(a1:A8)(a0:Bq)(b:Int×(List (Int×Bool)))(c:(Int×(List (Int×Bool)))->Option ((List (Int×Bool))))(d:Bool):Option ((List (Int×Bool))) :=
 reg <| cnd (d)
  (mst b.2 b.1 true fun e =>
  c ((aA .i64 (b.1+1)),e))
 <| c ((aA .i64 (b.1+1)),b.2)
def F7 (n:Nat)(a3:(List (List (Int×Bool))))(a2:Ac)(a1:A8)(a0:Bq)(c:Int×(List (Int×Bool)))(b:(Int×(List (Int×Bool)))->Option ((List (Int×Bool))))(e:Bool)(d:Bool):Option ((List (Int×Bool))) :=
 jon (Ei n a3 a2 a1 a0 c b) <|
 reg <| mgv a0.finner a2.fFrom (false:Bool) fun f j =>
 cnd (f)
  (reg <| cnd (d)
    (cnd (!(e))
      (idx a3 a2.fFrom fun g =>
      mgv g c.1 (false:Bool) fun h k =>
      Ei n a3 a2 a1 a0 c b h)
    <| Ei n a3 a2 a1 a0 c b false)
  <| Ei n a3 a2 a1 a0 c b false)
 <| Ei n a3 a2 a1 a0 c b d
def Dy (n:Nat)(a3:(List (List (Int×Bool))))(a2:Ac)(a1:A8)(a0:Bq)(b:(List (Int×Bool))->Option ((List (Int×Bool)))):Nat->Int×(List (Int×Bool))->Option ((List (Int×Bool)))
 |0,_=>none
 |d+1,c =>
  cnd (decide (c.1<a1.fScopes))
   (bnd (E4 n a2.fOpens c.1) fun e =>
   bnd (E4 n a2.fCloses c.1) fun f =>
   jon (F7 n a3 a2 a1 a0 c (Dy n a3 a2 a1 a0 b d) e) <|
   reg <| cnd (decide (a2.fFrom=0))
    (reg <| cnd (!(f))
      (F7 n a3 a2 a1 a0 c (Dy n a3 a2 a1 a0 b d) e e)
    <| F7 n a3 a2 a1 a0 c (Dy n a3 a2 a1 a0 b d) e false)
   <| F7 n a3 a2 a1 a0 c (Dy n a3 a2 a1 a0 b d) e !(f))
  <| b c.2
def Rk (n:Nat)(a0:Bq)(a1:A8)(a2:Ac)(a3:(List (List (Int×Bool)))):Option ((List (Int×Bool))) :=
 Dy n a3 a2 a1 a0
  (fun b=>some b) n (0,[])
noncomputable def J3 (n:Nat)(a1:(List (Int×Bool)))(b:(List (Int×Bool))->Option ((List (Int×Bool)))):Nat->(List (Int×Bool))×(List (Int×Bool))->Option ((List (Int×Bool)))
 |0,_=>none
 |d+1,c =>
  nxt c.1
   (b c.2)
  <| pck c.1 fun e f =>
  reg <| reg <| mgv a1 e.1 (false:Bool) fun g j =>
  cnd (g)
   (mst c.2 e.1 true fun h =>
   (J3 n a1 b d) (f,h))
  <| (J3 n a1 b d) (f,c.2)
noncomputable def Je (n:Nat)(a0:(List (Int×Bool)))(a1:(List (Int×Bool))):Option ((List (Int×Bool))) :=
 J3 n a1
  (fun b=>frs 7 b <| reg <| some (C1 b)) n (a0,[])
noncomputable def Eh (n:Nat)(a1:A8)(a0:Bq)(b:Bool×Int×(List (List (Int×Bool))))(c:(Bool×Int×(List (List (Int×Bool))))->Option ((List (List (Int×Bool)))))(d:Ac)(f:Bool):Option ((List (List (Int×Bool)))) :=
 cnd (f)
  (c (b.1,(aA .i64 (b.2.1+1)),b.2.2))
 <| nat d.fTo (List.map (fun q=>AV.mapv (List.map (encM aI AV.bool) q)) (b.2.2)).length fun g =>
 elt b.2.2 g fun h =>
 bnd (Rk n a0 a1 d b.2.2) fun j =>
 bnd (Je n h j) fun e =>
 reg <| nat d.fTo (List.map (fun q=>AV.mapv (List.map (encM aI AV.bool) q)) (b.2.2)).length fun k =>
 elt b.2.2 k fun l =>
 cnd (decide ((((List.map (encM aI AV.bool) (e)).length:Nat):Int)<(((List.map (encM aI AV.bool) (l)).length:Nat):Int)))
  (nat d.fTo (List.map (fun q=>AV.mapv (List.map (encM aI AV.bool) q)) (b.2.2)).length fun o =>
  stx b.2.2 o (fun s=>e) fun p =>
  c (true,(aA .i64 (b.2.1+1)),p))
 <| c (b.1,(aA .i64 (b.2.1+1)),b.2.2)
noncomputable def Eg (n:Nat)(a1:A8)(a0:Bq)(b:Bool->(List (List (Int×Bool)))->Option ((List (List (Int×Bool))))):Nat->Bool×Int×(List (List (Int×Bool)))->Option ((List (List (Int×Bool))))
 |0,_=>none
 |e+1,c =>
  cnd (decide (c.2.1<((a1.fEdges.map A5).length:Int)))
   (idx a1.fEdges c.2.1 fun d =>
   jon (Eh n a1 a0 c (Eg n a1 a0 b e) d) <|
   reg <| cnd (decide (d.fTo<0))
    (Eh n a1 a0 c (Eg n a1 a0 b e) d true)
   <| mgv a0.freachable d.fFrom (false:Bool) fun f h =>
   cnd (!(f))
    (Eh n a1 a0 c (Eg n a1 a0 b e) d true)
   <| mgv a0.finner d.fTo (false:Bool) fun g j =>
   Eh n a1 a0 c (Eg n a1 a0 b e) d !(g))
  <| b c.1 c.2.2
noncomputable def Gi (n:Nat)(a1:A8)(a0:Bq)(b:(List (List (Int×Bool)))->Option ((List (List (Int×Bool))))):Nat->Bool×(List (List (Int×Bool)))->Option ((List (List (Int×Bool))))
 |0,_=>none
 |f+1,c =>
  cnd (c.1)
   (Eg n a1 a0
     (fun d e=>(Gi n a1 a0 b f) (d,e)) n (false,0,c.2))
  <| b c.2
def Kk (n:Nat)(a1:A8)(a0:Bq)(e:Nat×(Ars (List (Int×Bool)))×(List (Int×Bool)))(d:(Int×Bool))(f:(List (Int×Bool)))(c:(Ars (List (Int×Bool)))->(List (Int×Bool))->Option ((List (List (Int×Bool))))):Nat->Int×(Ars (List (Int×Bool)))->Option ((List (List (Int×Bool))))
 |0,_=>none
 |g+1,b =>
  cnd (decide (b.1<a1.fScopes))
   (ncx d.1 e.1 <|
   aob b.2 (Int.toNat d.1) fun h =>
   aup b.2 h b.1 true fun j =>
   (Kk n a1 a0 e d f c g) ((aA .i64 (b.1+1)),j))
  <| c b.2 f
noncomputable def Hq (n:Nat)(a1:A8)(a0:Bq)(c:Nat->(Ars (List (Int×Bool)))->Option ((List (List (Int×Bool))))):Nat->Nat×(Ars (List (Int×Bool)))×(List (Int×Bool))->Option ((List (List (Int×Bool))))
 |0,_=>none
 |g+1,b =>
  nxt b.2.2
   (c b.1 b.2.1)
  <| pck b.2.2 fun d h =>
  reg <| ncx d.1 b.1 <|
  ast b.2.1 (Int.toNat d.1) [] fun j =>
  Kk n a1 a0 b d h
   (fun e f=>(Hq n a1 a0 c g) (b.1,e,f)) n (0,j)
noncomputable def Ny (n:Nat)(a0:Bq)(a1:A8):Option ((List (List (Int×Bool)))) :=
 mkm ((a1.fStates.map Al).length:Int) 8 fun x1 =>
 are 15 <| reg <| Hq n a1 a0
  (fun d b=>fro 15 <| reg <| Gi n a1 a0
  (fun c=>some c) n (true,(aval b))) n (x1,(mkA (List (Int×Bool)) x1),a0.finner)
def Lk (n:Nat)(b:Ah->Option (Ah))(a0:(List AV))(d:(List AV)->Option ((List AV))):Nat->Int×(List AV)->Option ((List AV))
 |0,_=>none
 |e+1,c =>
  cnd (decide (c.1<((a0.map idA).length:Int)))
   (idxD Bs a0 c.1 fun f =>
   bnd (b f) fun g =>
   app c.2 ([(Ag g)]) 88 fun h =>
   (Lk n b a0 d e) ((aA .i64 (c.1+1)),h))
  <| d c.2
def Sb (n:Nat)(b:Ah->Option (Ah))(a0:(List AV)):Option ((List AV)) :=
 Lk n b a0
  (fun c=>some c) n (0,[])
def Ep:Nat->Ah->Option (Ah)
 |0,_=>none
 |n+1,a0 =>
 bnd (Sb n (Ep n) a0.fArgs) fun x1 =>
 some (⟨a0.fOp,x1,a0.fVar,a0.fField,a0.fKind,a0.fValue⟩)
def Km (n:Nat)(a0:(List AV))(c:(List AV)->Option ((List AV))):Nat->Int×(List AV)->Option ((List AV))
 |0,_=>none
 |d+1,b =>
  cnd (decide (b.1<((a0.map idA).length:Int)))
   (idxD Bs a0 b.1 fun e =>
   bnd (Ep n e) fun f =>
   app b.2 ([(Ag f)]) 88 fun g =>
   (Km n a0 c d) ((aA .i64 (b.1+1)),g))
  <| c b.2
def Rb (n:Nat)(a0:(List AV)):Option ((List AV)) :=
 Km n a0
  (fun b=>some b) n (0,[])
def Pe (n:Nat)(a0:Ac):Option (Ac) :=
 bnd (Ep n a0.fCond) fun x1 =>
 bnd (Rb n a0.fChecks) fun x2 =>
 bnd (Dl n a0.fOpens) fun x3 =>
 bnd (Dl n a0.fCloses) fun x4 =>
 bnd (Dl n a0.fInside) fun x5 =>
 bnd (Dl n a0.fLimits) fun x6 =>
 some (⟨a0.fFrom,a0.fTo,a0.fVar,a0.fType,x1,x3,x4,x2,x6,x5⟩)
def Ls (n:Nat)(a0:A8)(x3:(List Int))(c:(List Ac)->Option ((List Ac)×Int)):Nat->Int×(List Ac)->Option ((List Ac)×Int)
 |0,_=>none
 |d+1,b =>
  cnd (decide (b.1<((x3.map aI).length:Int)))
   (idx x3 b.1 fun e =>
   idx a0.fEdges e fun f =>
   bnd (Pe n f) fun g =>
   app b.2 [g] 240 fun h =>
   (Ls n a0 x3 c d) ((aA .i64 (b.1+1)),h))
  <| c b.2
def P4 (n:Nat)(a0:A8)(a1:Int):Option ((List Ac)×Int) :=
 bnd (C3 n a0) fun x1 =>
 cnd (!decide (x1=0))
  (some ([],x1))
 <| bnd (De n a1 ((a0.fStates.map Al).length:Int)) fun x2 =>
 cnd (!(x2))
  (some ([],6))
 <| bnd (Ot n a0 a1) fun x3 =>
 Ls n a0 x3
  (fun b=>some (b,0)) n (0,[])
def Se (n:Nat)(a0:Bz)(a1:Int):Option (Bool) :=
 some (decide (a0.fScope=a1))
def Ki (n:Nat)(d:Int)(a0:(List Bz))(c:Option (Int)):Nat->Int->Option (Int)
 |0,_=>none
 |e+1,b =>
  cnd (decide (b<((a0.map Bi).length:Int)))
   (idx a0 b fun f =>
   bnd (Se n f d) fun g =>
   cnd (g)
    (some b)
   <| (Ki n d a0 c e) (aA .i64 (b+1)))
  <| c
def R9 (n:Nat)(a0:(List Bz))(b:Int):Option (Int) :=
 Ki n b a0
  (some (-1)) n 0
def Jb (n:Nat)(a0:Ac)(x1:Int)(b:Bool):Option (Int×Bool) :=
 cnd (b)
  (some (0,false))
 <| idx a0.fLimits x1 fun x4 =>
 some (x4.fSpan,true)
def Ji (n:Nat)(a0:Ac)(a1:Int):Option (Int×Bool) :=
 bnd (R9 n a0.fLimits a1) fun x1 =>
 jon (Jb n a0 x1) <|
 reg <| cnd (decide (x1<0))
  (Jb n a0 x1 true)
 <| bnd (E4 n a0.fOpens a1) fun x5 =>
 Jb n a0 x1 x5
def Jf (n:Nat)(a0:(List Ac))(e:Int×Bool×(List (Int×Bool)))(f:(Int×Bool))(g:(List (Int×Bool)))(c:Int->Bool->(List (Int×Bool))->Option (Int×Bool)):Nat->Int×Bool×Int->Option (Int×Bool)
 |0,_=>none
 |d+1,b =>
  cnd (decide (b.2.2<((a0.map A5).length:Int)))
   (idx a0 b.2.2 fun j =>
   bnd (Ji n j f.1) fun h =>
   reg <| cnd (b.2.1)
    ((Jf n a0 e f g c d) ((max b.1 h.1),h.2,(aA .i64 (b.2.2+1))))
   <| (Jf n a0 e f g c d) ((max b.1 h.1),false,(aA .i64 (b.2.2+1))))
  <| c b.1 b.2.1 g
noncomputable def Fv (n:Nat)(a0:(List Ac))(d:Int->Bool->Option (Int×Bool)):Nat->Int×Bool×(List (Int×Bool))->Option (Int×Bool)
 |0,_=>none
 |f+1,b =>
  nxt b.2.2
   (d b.1 b.2.1)
  <| pck b.2.2 fun h j =>
  reg <| Jf n a0 b h j
   (fun e g c=>reg <| cnd (g)
   (cnd (!(b.2.1))
     ((Fv n a0 d f) (e,true,c))
   <| cnd (decide (e<b.1))
    ((Fv n a0 d f) (e,true,c))
   <| (Fv n a0 d f) (b.1,b.2.1,c))
  <| (Fv n a0 d f) (b.1,b.2.1,c)) n (0,true,0)
noncomputable def So (n:Nat)(a0:(List Ac))(a1:(List (Int×Bool))):Option (Int×Bool) :=
 Fv n a0
  (fun b c=>some (b,c)) n (0,false,a1)
noncomputable def Jd (n:Nat)(a0:A8)(x2:Bq)(x3:(List (List (Int×Bool))))(c:(List Int)->(List Bool)->Option ((List Int)×(List Bool)×Int)):Nat->Int×(List Int)×(List Bool)->Option ((List Int)×(List Bool)×Int)
 |0,_=>none
 |d+1,b =>
  cnd (decide (b.1<((a0.fStates.map Al).length:Int)))
   (nat b.1 (b.2.2.map AV.bool).length fun g =>
   stx b.2.2 g (fun s=>true) fun e =>
   reg <| mgv x2.finner b.1 (false:Bool) fun h t =>
   cnd (h)
    (bnd (P4 n a0 b.1) fun j =>
    idx x3 b.1 fun k =>
    bnd (So n j.1 k) fun f =>
    nat b.1 (b.2.1.map aI).length fun l =>
    stx b.2.1 l (fun u=>f.1) fun o =>
    nat b.1 (e.map AV.bool).length fun p =>
    stx e p (fun v=>f.2) fun q =>
    (Jd n a0 x2 x3 c d) ((aA .i64 (b.1+1)),o,q))
   <| (Jd n a0 x2 x3 c d) ((aA .i64 (b.1+1)),b.2.1,e))
  <| c b.2.1 b.2.2
noncomputable def Pi (n:Nat)(a0:A8):Option ((List Int)×(List Bool)×Int) :=
 bnd (C3 n a0) fun x1 =>
 cnd (!decide (x1=0))
  (some ([],[],x1))
 <| bnd (M8 n a0) fun x2 =>
 bnd (Ny n x2 a0) fun x3 =>
 mak ((a0.fStates.map Al).length:Int) 8 (0:Int) fun x4 =>
 mak ((a0.fStates.map Al).length:Int) 1 (false:Bool) fun x5 =>
 Jd n a0 x2 x3
  (fun b c=>some (b,c,0)) n (0,x4,x5)
noncomputable def Ly (n:Nat)(a1:Int)(x1:(List Int)×(List Bool)×Int)(c:Int->Option (Int×Bool)):Nat->Int×(List (Int×Bool))->Option (Int×Bool)
 |0,_=>none
 |d+1,b =>
  nxt b.2
   (c b.1)
  <| pck b.2 fun e f =>
  reg <| idx x1.2.1 e.1 fun g =>
  cnd (!(g))
   (some (0,false))
  <| idx x1.1 e.1 fun h =>
  (Ly n a1 x1 c d) ((max b.1 (aA .i64 (a1*(aA .i64 (h+1))))),f)
noncomputable def Fy (n:Nat)(a0:A8)(a1:Int):Option (Int×Bool) :=
 bnd (Pi n a0) fun x1 =>
 bnd (M8 n a0) fun x2 =>
 Ly n a1 x1
  (fun b=>some (b,true)) n (0,x2.finner)
structure Aq where
 ftypes:(List Aw)
 fa:A8
deriving Inhabited
def Oy (n:Nat)(a0:Ah)(m0:B16):Option (Int×B16) :=
 bnd (Me n a0.fOp) fun x1 =>
 cnd (x1.1)
  (cnd (decide (0<=a0.fVar))
    (cnd (decide (a0.fVar<16))
      (natc a0.fVar 0
        (some (0,(true,m0.2.1,m0.2.2.1,m0.2.2.2.1,m0.2.2.2.2.1,m0.2.2.2.2.2.1,m0.2.2.2.2.2.2.1,m0.2.2.2.2.2.2.2.1,m0.2.2.2.2.2.2.2.2.1,m0.2.2.2.2.2.2.2.2.2.1,m0.2.2.2.2.2.2.2.2.2.2.1,m0.2.2.2.2.2.2.2.2.2.2.2.1,m0.2.2.2.2.2.2.2.2.2.2.2.2.1,m0.2.2.2.2.2.2.2.2.2.2.2.2.2.1,m0.2.2.2.2.2.2.2.2.2.2.2.2.2.2.1,m0.2.2.2.2.2.2.2.2.2.2.2.2.2.2.2)))
      <| natc a0.fVar 1
       (some (0,(m0.1,true,m0.2.2.1,m0.2.2.2.1,m0.2.2.2.2.1,m0.2.2.2.2.2.1,m0.2.2.2.2.2.2.1,m0.2.2.2.2.2.2.2.1,m0.2.2.2.2.2.2.2.2.1,m0.2.2.2.2.2.2.2.2.2.1,m0.2.2.2.2.2.2.2.2.2.2.1,m0.2.2.2.2.2.2.2.2.2.2.2.1,m0.2.2.2.2.2.2.2.2.2.2.2.2.1,m0.2.2.2.2.2.2.2.2.2.2.2.2.2.1,m0.2.2.2.2.2.2.2.2.2.2.2.2.2.2.1,m0.2.2.2.2.2.2.2.2.2.2.2.2.2.2.2)))
      <| natc a0.fVar 2
       (some (0,(m0.1,m0.2.1,true,m0.2.2.2.1,m0.2.2.2.2.1,m0.2.2.2.2.2.1,m0.2.2.2.2.2.2.1,m0.2.2.2.2.2.2.2.1,m0.2.2.2.2.2.2.2.2.1,m0.2.2.2.2.2.2.2.2.2.1,m0.2.2.2.2.2.2.2.2.2.2.1,m0.2.2.2.2.2.2.2.2.2.2.2.1,m0.2.2.2.2.2.2.2.2.2.2.2.2.1,m0.2.2.2.2.2.2.2.2.2.2.2.2.2.1,m0.2.2.2.2.2.2.2.2.2.2.2.2.2.2.1,m0.2.2.2.2.2.2.2.2.2.2.2.2.2.2.2)))
      <| natc a0.fVar 3
       (some (0,(m0.1,m0.2.1,m0.2.2.1,true,m0.2.2.2.2.1,m0.2.2.2.2.2.1,m0.2.2.2.2.2.2.1,m0.2.2.2.2.2.2.2.1,m0.2.2.2.2.2.2.2.2.1,m0.2.2.2.2.2.2.2.2.2.1,m0.2.2.2.2.2.2.2.2.2.2.1,m0.2.2.2.2.2.2.2.2.2.2.2.1,m0.2.2.2.2.2.2.2.2.2.2.2.2.1,m0.2.2.2.2.2.2.2.2.2.2.2.2.2.1,m0.2.2.2.2.2.2.2.2.2.2.2.2.2.2.1,m0.2.2.2.2.2.2.2.2.2.2.2.2.2.2.2)))
      <| natc a0.fVar 4
       (some (0,(m0.1,m0.2.1,m0.2.2.1,m0.2.2.2.1,true,m0.2.2.2.2.2.1,m0.2.2.2.2.2.2.1,m0.2.2.2.2.2.2.2.1,m0.2.2.2.2.2.2.2.2.1,m0.2.2.2.2.2.2.2.2.2.1,m0.2.2.2.2.2.2.2.2.2.2.1,m0.2.2.2.2.2.2.2.2.2.2.2.1,m0.2.2.2.2.2.2.2.2.2.2.2.2.1,m0.2.2.2.2.2.2.2.2.2.2.2.2.2.1,m0.2.2.2.2.2.2.2.2.2.2.2.2.2.2.1,m0.2.2.2.2.2.2.2.2.2.2.2.2.2.2.2)))
      <| natc a0.fVar 5
       (some (0,(m0.1,m0.2.1,m0.2.2.1,m0.2.2.2.1,m0.2.2.2.2.1,true,m0.2.2.2.2.2.2.1,m0.2.2.2.2.2.2.2.1,m0.2.2.2.2.2.2.2.2.1,m0.2.2.2.2.2.2.2.2.2.1,m0.2.2.2.2.2.2.2.2.2.2.1,m0.2.2.2.2.2.2.2.2.2.2.2.1,m0.2.2.2.2.2.2.2.2.2.2.2.2.1,m0.2.2.2.2.2.2.2.2.2.2.2.2.2.1,m0.2.2.2.2.2.2.2.2.2.2.2.2.2.2.1,m0.2.2.2.2.2.2.2.2.2.2.2.2.2.2.2)))
      <| natc a0.fVar 6
       (some (0,(m0.1,m0.2.1,m0.2.2.1,m0.2.2.2.1,m0.2.2.2.2.1,m0.2.2.2.2.2.1,true,m0.2.2.2.2.2.2.2.1,m0.2.2.2.2.2.2.2.2.1,m0.2.2.2.2.2.2.2.2.2.1,m0.2.2.2.2.2.2.2.2.2.2.1,m0.2.2.2.2.2.2.2.2.2.2.2.1,m0.2.2.2.2.2.2.2.2.2.2.2.2.1,m0.2.2.2.2.2.2.2.2.2.2.2.2.2.1,m0.2.2.2.2.2.2.2.2.2.2.2.2.2.2.1,m0.2.2.2.2.2.2.2.2.2.2.2.2.2.2.2)))
      <| natc a0.fVar 7
       (some (0,(m0.1,m0.2.1,m0.2.2.1,m0.2.2.2.1,m0.2.2.2.2.1,m0.2.2.2.2.2.1,m0.2.2.2.2.2.2.1,true,m0.2.2.2.2.2.2.2.2.1,m0.2.2.2.2.2.2.2.2.2.1,m0.2.2.2.2.2.2.2.2.2.2.1,m0.2.2.2.2.2.2.2.2.2.2.2.1,m0.2.2.2.2.2.2.2.2.2.2.2.2.1,m0.2.2.2.2.2.2.2.2.2.2.2.2.2.1,m0.2.2.2.2.2.2.2.2.2.2.2.2.2.2.1,m0.2.2.2.2.2.2.2.2.2.2.2.2.2.2.2)))
      <| natc a0.fVar 8
       (some (0,(m0.1,m0.2.1,m0.2.2.1,m0.2.2.2.1,m0.2.2.2.2.1,m0.2.2.2.2.2.1,m0.2.2.2.2.2.2.1,m0.2.2.2.2.2.2.2.1,true,m0.2.2.2.2.2.2.2.2.2.1,m0.2.2.2.2.2.2.2.2.2.2.1,m0.2.2.2.2.2.2.2.2.2.2.2.1,m0.2.2.2.2.2.2.2.2.2.2.2.2.1,m0.2.2.2.2.2.2.2.2.2.2.2.2.2.1,m0.2.2.2.2.2.2.2.2.2.2.2.2.2.2.1,m0.2.2.2.2.2.2.2.2.2.2.2.2.2.2.2)))
      <| natc a0.fVar 9
       (some (0,(m0.1,m0.2.1,m0.2.2.1,m0.2.2.2.1,m0.2.2.2.2.1,m0.2.2.2.2.2.1,m0.2.2.2.2.2.2.1,m0.2.2.2.2.2.2.2.1,m0.2.2.2.2.2.2.2.2.1,true,m0.2.2.2.2.2.2.2.2.2.2.1,m0.2.2.2.2.2.2.2.2.2.2.2.1,m0.2.2.2.2.2.2.2.2.2.2.2.2.1,m0.2.2.2.2.2.2.2.2.2.2.2.2.2.1,m0.2.2.2.2.2.2.2.2.2.2.2.2.2.2.1,m0.2.2.2.2.2.2.2.2.2.2.2.2.2.2.2)))
      <| natc a0.fVar 10
       (some (0,(m0.1,m0.2.1,m0.2.2.1,m0.2.2.2.1,m0.2.2.2.2.1,m0.2.2.2.2.2.1,m0.2.2.2.2.2.2.1,m0.2.2.2.2.2.2.2.1,m0.2.2.2.2.2.2.2.2.1,m0.2.2.2.2.2.2.2.2.2.1,true,m0.2.2.2.2.2.2.2.2.2.2.2.1,m0.2.2.2.2.2.2.2.2.2.2.2.2.1,m0.2.2.2.2.2.2.2.2.2.2.2.2.2.1,m0.2.2.2.2.2.2.2.2.2.2.2.2.2.2.1,m0.2.2.2.2.2.2.2.2.2.2.2.2.2.2.2)))
      <| natc a0.fVar 11
       (some (0,(m0.1,m0.2.1,m0.2.2.1,m0.2.2.2.1,m0.2.2.2.2.1,m0.2.2.2.2.2.1,m0.2.2.2.2.2.2.1,m0.2.2.2.2.2.2.2.1,m0.2.2.2.2.2.2.2.2.1,m0.2.2.2.2.2.2.2.2.2.1,m0.2.2.2.2.2.2.2.2.2.2.1,true,m0.2.2.2.2.2.2.2.2.2.2.2.2.1,m0.2.2.2.2.2.2.2.2.2.2.2.2.2.1,m0.2.2.2.2.2.2.2.2.2.2.2.2.2.2.1,m0.2.2.2.2.2.2.2.2.2.2.2.2.2.2.2)))
      <| natc a0.fVar 12
       (some (0,(m0.1,m0.2.1,m0.2.2.1,m0.2.2.2.1,m0.2.2.2.2.1,m0.2.2.2.2.2.1,m0.2.2.2.2.2.2.1,m0.2.2.2.2.2.2.2.1,m0.2.2.2.2.2.2.2.2.1,m0.2.2.2.2.2.2.2.2.2.1,m0.2.2.2.2.2.2.2.2.2.2.1,m0.2.2.2.2.2.2.2.2.2.2.2.1,true,m0.2.2.2.2.2.2.2.2.2.2.2.2.2.1,m0.2.2.2.2.2.2.2.2.2.2.2.2.2.2.1,m0.2.2.2.2.2.2.2.2.2.2.2.2.2.2.2)))
      <| natc a0.fVar 13
       (some (0,(m0.1,m0.2.1,m0.2.2.1,m0.2.2.2.1,m0.2.2.2.2.1,m0.2.2.2.2.2.1,m0.2.2.2.2.2.2.1,m0.2.2.2.2.2.2.2.1,m0.2.2.2.2.2.2.2.2.1,m0.2.2.2.2.2.2.2.2.2.1,m0.2.2.2.2.2.2.2.2.2.2.1,m0.2.2.2.2.2.2.2.2.2.2.2.1,m0.2.2.2.2.2.2.2.2.2.2.2.2.1,true,m0.2.2.2.2.2.2.2.2.2.2.2.2.2.2.1,m0.2.2.2.2.2.2.2.2.2.2.2.2.2.2.2)))
      <| natc a0.fVar 14
       (some (0,(m0.1,m0.2.1,m0.2.2.1,m0.2.2.2.1,m0.2.2.2.2.1,m0.2.2.2.2.2.1,m0.2.2.2.2.2.2.1,m0.2.2.2.2.2.2.2.1,m0.2.2.2.2.2.2.2.2.1,m0.2.2.2.2.2.2.2.2.2.1,m0.2.2.2.2.2.2.2.2.2.2.1,m0.2.2.2.2.2.2.2.2.2.2.2.1,m0.2.2.2.2.2.2.2.2.2.2.2.2.1,m0.2.2.2.2.2.2.2.2.2.2.2.2.2.1,true,m0.2.2.2.2.2.2.2.2.2.2.2.2.2.2.2)))
      <| natc a0.fVar 15
       (some (0,(m0.1,m0.2.1,m0.2.2.1,m0.2.2.2.1,m0.2.2.2.2.1,m0.2.2.2.2.2.1,m0.2.2.2.2.2.2.1,m0.2.2.2.2.2.2.2.1,m0.2.2.2.2.2.2.2.2.1,m0.2.2.2.2.2.2.2.2.2.1,m0.2.2.2.2.2.2.2.2.2.2.1,m0.2.2.2.2.2.2.2.2.2.2.2.1,m0.2.2.2.2.2.2.2.2.2.2.2.2.1,m0.2.2.2.2.2.2.2.2.2.2.2.2.2.1,m0.2.2.2.2.2.2.2.2.2.2.2.2.2.2.1,true)))
      <| none)
    <| some (0,m0))
  <| some (0,m0))
 <| some (0,m0)
def Lp (n:Nat)(d:Ah->B16->Option (Int×B16))(a0:Ah)(e:Bool->Bool->Bool->Bool->Bool->Bool->Bool->Bool->Bool->Bool->Bool->Bool->Bool->Bool->Bool->Bool->Option (Int×B16)):Nat->Int×B16->Option (Int×B16)
 |0,_=>none
 |f+1,b =>
  cnd (decide (b.1<((a0.fArgs.map idA).length:Int)))
   (idxD Bs a0.fArgs b.1 fun g =>
   bndM 24 (d g b.2) fun c =>
   cnd (!decide (c.1=0))
    (some (c.1,c.2))
   <| (Lp n d a0 e f) ((aA .i64 (b.1+1)),c.2.1,c.2.2.1,c.2.2.2.1,c.2.2.2.2.1,c.2.2.2.2.2.1,c.2.2.2.2.2.2.1,c.2.2.2.2.2.2.2.1,c.2.2.2.2.2.2.2.2.1,c.2.2.2.2.2.2.2.2.2.1,c.2.2.2.2.2.2.2.2.2.2.1,c.2.2.2.2.2.2.2.2.2.2.2.1,c.2.2.2.2.2.2.2.2.2.2.2.2.1,c.2.2.2.2.2.2.2.2.2.2.2.2.2.1,c.2.2.2.2.2.2.2.2.2.2.2.2.2.2.1,c.2.2.2.2.2.2.2.2.2.2.2.2.2.2.2.1,c.2.2.2.2.2.2.2.2.2.2.2.2.2.2.2.2))
  <| e b.2.1 b.2.2.1 b.2.2.2.1 b.2.2.2.2.1 b.2.2.2.2.2.1 b.2.2.2.2.2.2.1 b.2.2.2.2.2.2.2.1 b.2.2.2.2.2.2.2.2.1 b.2.2.2.2.2.2.2.2.2.1 b.2.2.2.2.2.2.2.2.2.2.1 b.2.2.2.2.2.2.2.2.2.2.2.1 b.2.2.2.2.2.2.2.2.2.2.2.2.1 b.2.2.2.2.2.2.2.2.2.2.2.2.2.1 b.2.2.2.2.2.2.2.2.2.2.2.2.2.2.1 b.2.2.2.2.2.2.2.2.2.2.2.2.2.2.2.1 b.2.2.2.2.2.2.2.2.2.2.2.2.2.2.2.2
def Ha:Nat->Ah->B16->Option (Int×B16)
 |0,_,_=>none
 |n+1,a0,m0 =>
 bndM 11 (Oy n a0 m0) fun x1 =>
 cnd (!decide (x1.1=0))
  (some (x1.1,x1.2))
 <| Lp n (Ha n) a0
  (fun h j k l o p q s t u b c d e f g=>some (0,(h,j,k,l,o,p,q,s,t,u,b,c,d,e,f,g))) n (0,x1.2.1,x1.2.2.1,x1.2.2.2.1,x1.2.2.2.2.1,x1.2.2.2.2.2.1,x1.2.2.2.2.2.2.1,x1.2.2.2.2.2.2.2.1,x1.2.2.2.2.2.2.2.2.1,x1.2.2.2.2.2.2.2.2.2.1,x1.2.2.2.2.2.2.2.2.2.2.1,x1.2.2.2.2.2.2.2.2.2.2.2.1,x1.2.2.2.2.2.2.2.2.2.2.2.2.1,x1.2.2.2.2.2.2.2.2.2.2.2.2.2.1,x1.2.2.2.2.2.2.2.2.2.2.2.2.2.2.1,x1.2.2.2.2.2.2.2.2.2.2.2.2.2.2.2.1,x1.2.2.2.2.2.2.2.2.2.2.2.2.2.2.2.2)
def B3 (n:Nat)(x1:Int×B16)(c:(List Int)->Option ((List Int))):Nat->Int×(List Int)->Option ((List Int))
 |0,_=>none
 |d+1,b =>
  cnd (decide (b.1<16))
   (natc b.1 0
     (reg <| cnd (x1.2.1)
     (app b.2 [b.1] 8 fun e =>
     (B3 n x1 c d) ((aA .i64 (b.1+1)),e))
   <| (B3 n x1 c d) ((aA .i64 (b.1+1)),b.2))
   <| natc b.1 1
    (reg <| cnd (x1.2.2.1)
    (app b.2 [b.1] 8 fun f =>
    (B3 n x1 c d) ((aA .i64 (b.1+1)),f))
   <| (B3 n x1 c d) ((aA .i64 (b.1+1)),b.2))
   <| natc b.1 2
    (reg <| cnd (x1.2.2.2.1)
    (app b.2 [b.1] 8 fun g =>
    (B3 n x1 c d) ((aA .i64 (b.1+1)),g))
   <| (B3 n x1 c d) ((aA .i64 (b.1+1)),b.2))
   <| natc b.1 3
    (reg <| cnd (x1.2.2.2.2.1)
    (app b.2 [b.1] 8 fun h =>
    (B3 n x1 c d) ((aA .i64 (b.1+1)),h))
   <| (B3 n x1 c d) ((aA .i64 (b.1+1)),b.2))
   <| natc b.1 4
    (reg <| cnd (x1.2.2.2.2.2.1)
    (app b.2 [b.1] 8 fun j =>
    (B3 n x1 c d) ((aA .i64 (b.1+1)),j))
   <| (B3 n x1 c d) ((aA .i64 (b.1+1)),b.2))
   <| natc b.1 5
    (reg <| cnd (x1.2.2.2.2.2.2.1)
    (app b.2 [b.1] 8 fun k =>
    (B3 n x1 c d) ((aA .i64 (b.1+1)),k))
   <| (B3 n x1 c d) ((aA .i64 (b.1+1)),b.2))
   <| natc b.1 6
    (reg <| cnd (x1.2.2.2.2.2.2.2.1)
    (app b.2 [b.1] 8 fun l =>
    (B3 n x1 c d) ((aA .i64 (b.1+1)),l))
   <| (B3 n x1 c d) ((aA .i64 (b.1+1)),b.2))
   <| natc b.1 7
    (reg <| cnd (x1.2.2.2.2.2.2.2.2.1)
    (app b.2 [b.1] 8 fun o =>
    (B3 n x1 c d) ((aA .i64 (b.1+1)),o))
   <| (B3 n x1 c d) ((aA .i64 (b.1+1)),b.2))
   <| natc b.1 8
    (reg <| cnd (x1.2.2.2.2.2.2.2.2.2.1)
    (app b.2 [b.1] 8 fun p =>
    (B3 n x1 c d) ((aA .i64 (b.1+1)),p))
   <| (B3 n x1 c d) ((aA .i64 (b.1+1)),b.2))
   <| natc b.1 9
    (reg <| cnd (x1.2.2.2.2.2.2.2.2.2.2.1)
    (app b.2 [b.1] 8 fun q =>
    (B3 n x1 c d) ((aA .i64 (b.1+1)),q))
   <| (B3 n x1 c d) ((aA .i64 (b.1+1)),b.2))
   <| natc b.1 10
    (reg <| cnd (x1.2.2.2.2.2.2.2.2.2.2.2.1)
    (app b.2 [b.1] 8 fun s =>
    (B3 n x1 c d) ((aA .i64 (b.1+1)),s))
   <| (B3 n x1 c d) ((aA .i64 (b.1+1)),b.2))
   <| natc b.1 11
    (reg <| cnd (x1.2.2.2.2.2.2.2.2.2.2.2.2.1)
    (app b.2 [b.1] 8 fun t =>
    (B3 n x1 c d) ((aA .i64 (b.1+1)),t))
   <| (B3 n x1 c d) ((aA .i64 (b.1+1)),b.2))
   <| natc b.1 12
    (reg <| cnd (x1.2.2.2.2.2.2.2.2.2.2.2.2.2.1)
    (app b.2 [b.1] 8 fun u =>
    (B3 n x1 c d) ((aA .i64 (b.1+1)),u))
   <| (B3 n x1 c d) ((aA .i64 (b.1+1)),b.2))
   <| natc b.1 13
    (reg <| cnd (x1.2.2.2.2.2.2.2.2.2.2.2.2.2.2.1)
    (app b.2 [b.1] 8 fun v =>
    (B3 n x1 c d) ((aA .i64 (b.1+1)),v))
   <| (B3 n x1 c d) ((aA .i64 (b.1+1)),b.2))
   <| natc b.1 14
    (reg <| cnd (x1.2.2.2.2.2.2.2.2.2.2.2.2.2.2.2.1)
    (app b.2 [b.1] 8 fun w =>
    (B3 n x1 c d) ((aA .i64 (b.1+1)),w))
   <| (B3 n x1 c d) ((aA .i64 (b.1+1)),b.2))
   <| natc b.1 15
    (reg <| cnd (x1.2.2.2.2.2.2.2.2.2.2.2.2.2.2.2.2)
    (app b.2 [b.1] 8 fun y =>
    (B3 n x1 c d) ((aA .i64 (b.1+1)),y))
   <| (B3 n x1 c d) ((aA .i64 (b.1+1)),b.2))
   <| none)
  <| c b.2
def P7 (n:Nat)(a0:Ah):Option ((List Int)) :=
 bndM 9 (Ha n a0 (false,false,false,false,false,false,false,false,false,false,false,false,false,false,false,false)) fun x1 =>
 B3 n x1
  (fun b=>some b) n (0,[])
def Hp (n:Nat)(a1:Int)(a0f2:Au)(a0f1:Int)(a0f0:Be)(b:Bool):Option ((List Au)) :=
 cnd (b)
  (some [])
 <| idx a0f0.fVars a1 fun x2 =>
 some x2
def Kz (n:Nat)(a0f0:Be)(a0f1:Int)(a0f2:Au)(a1:Int):Option ((List Au)) :=
 jon (Hp n a1 a0f2 a0f1 a0f0) <|
 reg <| cnd (decide (a1<0))
  (Hp n a1 a0f2 a0f1 a0f0 true)
 <| Hp n a1 a0f2 a0f1 a0f0 (decide ((((List.map (fun q=>AV.sl 5 (List.map Am q)) (a0f0.fVars)).length:Nat):Int)<=a1))
def Jo (n:Nat)(a0:Au)(a1:Int):Option (A4×Int) :=
 cnd (decide (((a0.fValues.map A6).length:Int)<=a1))
  (some (⟨0,0,ByteArray.empty⟩,6))
 <| idx a0.fValues a1 fun x1 =>
 some (x1,0)
def Kl (n:Nat)(a1:Ah)(x1:(List Au))(c:(List A4)->Option (A4×Int)):Nat->Int×(List A4)->Option (A4×Int)
 |0,_=>none
 |e+1,b =>
  cnd (decide (b.1<((x1.map Am).length:Int)))
   (idx x1 b.1 fun f =>
   bnd (Jo n f a1.fField) fun d =>
   cnd (!decide (d.2=0))
    (some (⟨0,0,ByteArray.empty⟩,d.2))
   <| app b.2 [d.1] 32 fun g =>
   (Kl n a1 x1 c e) ((aA .i64 (b.1+1)),g))
  <| c b.2
def Ra (n:Nat)(a0f0:Be)(a0f1:Int)(a0f2:Au)(a1:Ah):Option (A4×Int) :=
 bnd (Kz n (⟨a0f0.fVars⟩:Be) a0f1 a0f2 a1.fVar) fun x1 =>
 Kl n a1 x1
  (fun b=>bnd (Mc n a1.fKind b a1.fValue) fun c =>
 some (c.1,c.2)) n (0,[])
def Ht (n:Nat)(x9:A4×Int)(b:Int):Option (A4×Int) :=
 cnd (!decide (b=0))
  (some (⟨0,0,ByteArray.empty⟩,b))
 <| some (x9.1,0)
def Hu (n:Nat)(a1:Ah)(b:Int×Int×Int×Int×(List A4)):Option (A4×Int) :=
 cnd (decide (a1.fOp=2))
  (some (⟨0,b.2.2.2.1,ByteArray.empty⟩,0))
 <| bnd (Jo n (⟨b.1,b.2.1,b.2.2.1,b.2.2.2.1,b.2.2.2.2⟩:Au) a1.fField) fun x9 =>
 jon (Ht n x9) <|
 reg <| cnd (decide (x9.2=0))
  (bnd (Er n x9.1) fun c =>
  Ht n x9 c)
 <| Ht n x9 x9.2
def Lc (n:Nat)(a0f0:Be)(a0f1:Int)(a0f2:Au)(a1:Ah):Option (A4×Int) :=
 bnd (Kz n (⟨a0f0.fVars⟩:Be) a0f1 a0f2 a1.fVar) fun x1 =>
 cnd (decide (a1.fOp=0))
  (some (a1.fValue,0))
 <| cnd (decide (a1.fOp=3))
  (some (⟨0,((x1.map Am).length:Int),ByteArray.empty⟩,0))
 <| cnd (decide (a1.fOp=4))
  (bnd (Ra n (⟨a0f0.fVars⟩:Be) a0f1 a0f2 a1) fun x2 =>
  some (x2.1,x2.2))
 <| jon (Hu n a1) <|
 reg <| cnd (!decide (a1.fVar=a0f1))
  (cnd (decide (((x1.map Am).length:Int)=0))
    (some (⟨0,0,ByteArray.empty⟩,10))
  <| idx x1 (aA .i64 (((x1.map Am).length:Int)-1)) fun b =>
  Hu n a1 (b.fSource,b.fSeq,b.fType,b.fTime,b.fValues))
 <| Hu n a1 (a0f2.fSource,a0f2.fSeq,a0f2.fType,a0f2.fTime,a0f2.fValues)
def H7 (n:Nat)(a1:(List Int))(a0:Int)(c:Int)(b:Int->Option (Int))(d:Int)(e:Bool):Option (Int) :=
 cnd (e)
  (cnd (!(decide (d=1)))
    (some 9)
  <| b (aA .i64 (c+1)))
 <| reg <| cnd (decide (a0=9))
  (idx a1 0 fun f =>
  cnd (!(decide (d=f)))
   (some 9)
  <| b (aA .i64 (c+1)))
 <| b (aA .i64 (c+1))
def Fl (n:Nat)(a1:(List Int))(a0:Int)(c:Int)(b:Int->Option (Int))(d:Int)(e:Bool):Option (Int) :=
 cnd (e)
  (cnd (!(decide (d=0)))
    (some 9)
  <| b (aA .i64 (c+1)))
 <| jon (H7 n a1 a0 c b d) <|
 reg <| cnd (decide (a0=10))
  (H7 n a1 a0 c b d (decide (a0=10)))
 <| reg <| cnd (decide (a0=11))
  (H7 n a1 a0 c b d (decide (a0=11)))
 <| H7 n a1 a0 c b d (decide (a0=12))
def Eo (n:Nat)(a1:(List Int))(a0:Int)(b:Option (Int)):Nat->Int->Option (Int)
 |0,_=>none
 |d+1,c =>
  cnd (decide (c<((a1.map aI).length:Int)))
   (idx a1 c fun e =>
   jon (Fl n a1 a0 c (Eo n a1 a0 b d) e) <|
   reg <| cnd (decide (a0=5))
    (Fl n a1 a0 c (Eo n a1 a0 b d) e (decide (a0=5)))
   <| reg <| cnd (decide (a0=6))
    (Fl n a1 a0 c (Eo n a1 a0 b d) e (decide (a0=6)))
   <| reg <| cnd (decide (a0=7))
    (Fl n a1 a0 c (Eo n a1 a0 b d) e (decide (a0=7)))
   <| Fl n a1 a0 c (Eo n a1 a0 b d) e (decide (a0=8)))
  <| b
def Sh (n:Nat)(a0:Int)(a1:(List Int)):Option (Int) :=
 Eo n a1 a0
  (some 0) n 0
def Sn (n:Nat)(a0:Bool):Option (A4) :=
 cnd (a0)
  (some (⟨1,1,ByteArray.empty⟩))
 <| some (⟨1,0,ByteArray.empty⟩)
def D2 (n:Nat)(a0:Bool):Option (A4) :=
 bnd (Sn n a0) fun x1 =>
 some x1
def Oo (n:Nat)(a0:Int):Option (A4) :=
 some (⟨0,a0,ByteArray.empty⟩)
def Om (n:Nat)(a0:Int)(a1:Int):Option (A4) :=
 bnd (Oo n (aA .i64 (a0+a1))) fun x1 =>
 some x1
def Ol (n:Nat)(a0:Int)(a1:Int):Option (A4) :=
 bnd (Oo n (aA .i64 (a0-a1))) fun x1 =>
 some x1
def Ok (n:Nat)(a0:Int)(a1:Int):Option (A4) :=
 bnd (D2 n (decide (a0<a1))) fun x1 =>
 some x1
def Oj (n:Nat)(a0:Int)(a1:Int):Option (A4) :=
 bnd (D2 n (decide (a0<=a1))) fun x1 =>
 some x1
def Ij (n:Nat)(b:Int×Int×ByteArray):Option (A4) :=
 some (⟨b.1,b.2.1,b.2.2⟩)
def Oi (n:Nat)(a0:Int)(a1:Int):Option (A4) :=
 jon (Ij n) <|
 reg <| cnd (decide (a0=1))
  (bnd (D2 n (decide (a1=1))) fun x6 =>
  Ij n (x6.fKind,x6.fNum,x6.fText))
 <| bnd (D2 n false) fun x7 =>
 Ij n (x7.fKind,x7.fNum,x7.fText)
def Ii (n:Nat)(b:Int×Int×ByteArray):Option (A4) :=
 some (⟨b.1,b.2.1,b.2.2⟩)
def Oh (n:Nat)(a0:Int)(a1:Int):Option (A4) :=
 jon (Ii n) <|
 reg <| cnd (decide (a0=1))
  (bnd (D2 n true) fun x6 =>
  Ii n (x6.fKind,x6.fNum,x6.fText))
 <| bnd (D2 n (decide (a1=1))) fun x7 =>
 Ii n (x7.fKind,x7.fNum,x7.fText)
def Iz (n:Nat)(a0:Int)(a1:Int):Option (A4) :=
 bnd (D2 n (!decide (a0=1))) fun x1 =>
 some x1
def Ku (n:Nat)(b:Be->Int->Au->Ah->Option (A4×Int))(a1:Ah)(a0f2:Au)(a0f1:Int)(a0f0:Be)(d:(List A4)->(List Int)->Option (A4×Int)):Nat->Int×(List A4)×(List Int)->Option (A4×Int)
 |0,_=>none
 |f+1,c =>
  cnd (decide (c.1<((a1.fArgs.map idA).length:Int)))
   (idxD Bs a1.fArgs c.1 fun g =>
   bnd (b (⟨a0f0.fVars⟩:Be) a0f1 a0f2 g) fun e =>
   cnd (!decide (e.2=0))
    (some (⟨0,0,ByteArray.empty⟩,e.2))
   <| app c.2.1 [e.1] 32 fun h =>
   app c.2.2 [e.1.fKind] 8 fun j =>
   (Ku n b a1 a0f2 a0f1 a0f0 d f) ((aA .i64 (c.1+1)),h,j))
  <| d c.2.1 c.2.2
def Fb:Nat->Be->Int->Au->Ah->Option (A4×Int)
 |0,_,_,_,_=>none
 |n+1,a0f0,a0f1,a0f2,a1 =>
 cnd (decide (((a1.fArgs.map idA).length:Int)=0))
  (bnd (Lc n (⟨a0f0.fVars⟩:Be) a0f1 a0f2 a1) fun x1 =>
  some (x1.1,x1.2))
 <| Ku n (Fb n) a1 a0f2 a0f1 a0f0
  (fun b c=>bnd (Sh n a1.fOp c) fun f =>
 cnd (!decide (f=0))
  (some (⟨0,0,ByteArray.empty⟩,f))
 <| cnd (decide (a1.fOp=9))
  (nat 0 (b.map A6).length fun z =>
  elt b z fun d =>
  nat 1 (b.map A6).length fun ba =>
  elt b ba fun e =>
  bnd (D2 n (decide (d.fKind=e.fKind) && (decide (d.fNum=e.fNum) && ((d.fText.toList == e.fText.toList) && true)))) fun bb =>
  some (bb,0))
 <| natc a1.fOp 5
  (nat 0 (b.map A6).length fun g =>
 ltx g (b.map A6).length <| elt b g fun bc =>
 nat (aA .i64 (((b.map A6).length:Int)-1)) (b.map A6).length fun h =>
 ltx h (b.map A6).length <| elt b h fun bd =>
 bnd (Om n bc.fNum bd.fNum) fun be =>
 some (be,0))
 <| natc a1.fOp 6
  (nat 0 (b.map A6).length fun j =>
 ltx j (b.map A6).length <| elt b j fun bf =>
 nat (aA .i64 (((b.map A6).length:Int)-1)) (b.map A6).length fun k =>
 ltx k (b.map A6).length <| elt b k fun bg =>
 bnd (Ol n bf.fNum bg.fNum) fun bh =>
 some (bh,0))
 <| natc a1.fOp 7
  (nat 0 (b.map A6).length fun l =>
 ltx l (b.map A6).length <| elt b l fun bi =>
 nat (aA .i64 (((b.map A6).length:Int)-1)) (b.map A6).length fun o =>
 ltx o (b.map A6).length <| elt b o fun bj =>
 bnd (Ok n bi.fNum bj.fNum) fun bk =>
 some (bk,0))
 <| natc a1.fOp 8
  (nat 0 (b.map A6).length fun p =>
 ltx p (b.map A6).length <| elt b p fun bl =>
 nat (aA .i64 (((b.map A6).length:Int)-1)) (b.map A6).length fun q =>
 ltx q (b.map A6).length <| elt b q fun bm =>
 bnd (Oj n bl.fNum bm.fNum) fun bn =>
 some (bn,0))
 <| natc a1.fOp 10
  (nat 0 (b.map A6).length fun s =>
 ltx s (b.map A6).length <| elt b s fun bo =>
 nat (aA .i64 (((b.map A6).length:Int)-1)) (b.map A6).length fun t =>
 ltx t (b.map A6).length <| elt b t fun bp =>
 bnd (Oi n bo.fNum bp.fNum) fun bq =>
 some (bq,0))
 <| natc a1.fOp 11
  (nat 0 (b.map A6).length fun u =>
 ltx u (b.map A6).length <| elt b u fun br =>
 nat (aA .i64 (((b.map A6).length:Int)-1)) (b.map A6).length fun v =>
 ltx v (b.map A6).length <| elt b v fun bs =>
 bnd (Oh n br.fNum bs.fNum) fun bt =>
 some (bt,0))
 <| natc a1.fOp 12
  (nat 0 (b.map A6).length fun w =>
 ltx w (b.map A6).length <| elt b w fun bu =>
 nat (aA .i64 (((b.map A6).length:Int)-1)) (b.map A6).length fun y =>
 ltx y (b.map A6).length <| elt b y fun bv =>
 bnd (Iz n bu.fNum bv.fNum) fun bw =>
 some (bw,0))
 <| none) n (0,[],[])
def Sr (n:Nat)(a0:Ah)(a1:Be)(a2:Int)(a3:Au):Option (A4×Int) :=
 bnd (G2 n a0) fun x1 =>
 cnd (!decide (x1=0))
  (some (⟨0,0,ByteArray.empty⟩,x1))
 <| bnd (Fb n (⟨a1.fVars⟩:Be) a2 a3 a0) fun x2 =>
 some (x2.1,x2.2)
def Jh (n:Nat)(b:Bool):Option (Bool) :=
 some b
def Pn (n:Nat)(a0:Ah)(a1:Be)(a2:Int)(a3:Au):Option (Bool) :=
 bnd (Sr n a0 (⟨a1.fVars⟩:Be) a2 a3) fun x1 =>
 jon (Jh n) <|
 reg <| cnd (decide (x1.2=0))
  (bnd (D2 n true) fun x4 =>
  Jh n (decide (x1.1.fKind=x4.fKind) && (decide (x1.1.fNum=x4.fNum) && ((x1.1.fText.toList == x4.fText.toList) && true))))
 <| Jh n false
def Iv (n:Nat)(b:Bool):Option (Bool) :=
 some b
def Lz (n:Nat)(a0:Ah):Option (Bool) :=
 jon (Iv n) <|
 reg <| bnd (P7 n a0) fun x4 =>
 cnd (decide (((x4.map aI).length:Int)=0))
  (bnd (Pn n a0 (⟨[]⟩:Be) (-1) (⟨0,0,0,0,[]⟩:Au)) fun x5 =>
  Iv n x5)
 <| Iv n false
def Hs (n:Nat)(b:Bool):Option (Bool) :=
 some b
def O5 (n:Nat)(a0:B0)(a1:Ac):Option (Bool) :=
 jon (Hs n) <|
 reg <| cnd (decide (a0.fType=a1.fType))
  (bnd (E4 n a1.fInside a0.fScope) fun x3 =>
  Hs n !(x3))
 <| Hs n false
def Kh (n:Nat)(d:Ac)(a0:(List B0))(c:Option (Int)):Nat->Int->Option (Int)
 |0,_=>none
 |e+1,b =>
  cnd (decide (b<((a0.map B4).length:Int)))
   (idx a0 b fun f =>
   bnd (O5 n f d) fun g =>
   cnd (g)
    (some b)
   <| (Kh n d a0 c e) (aA .i64 (b+1)))
  <| c
def R8 (n:Nat)(a0:(List B0))(b:Ac):Option (Int) :=
 Kh n b a0
  (some (-1)) n 0
def Nd (n:Nat)(a0:(List B0))(b:Ac):Option (Bool) :=
 bnd (R8 n a0 b) fun x1 =>
 some (decide (0<=x1))
def L4 (n:Nat)(a1:Ac)(a0:Aq)(b:Option (Bool)):Nat->Int->Option (Bool)
 |0,_=>none
 |d+1,c =>
  cnd (decide (c<((a1.fLimits.map Bi).length:Int)))
   (idx a1.fLimits c fun e =>
   bnd (E4 n a1.fOpens e.fScope) fun f =>
   cnd (!(f))
    (some false)
   <| (L4 n a1 a0 b d) (aA .i64 (c+1)))
  <| b
def L5 (n:Nat)(a1:Ac)(a0:Aq)(b:Option (Bool)):Nat->Int->Option (Bool)
 |0,_=>none
 |d+1,c =>
  cnd (decide (c<((a1.fChecks.map idA).length:Int)))
   (idxD Bs a1.fChecks c fun e =>
   bnd (Lz n e) fun f =>
   cnd (!(f))
    (some false)
   <| (L5 n a1 a0 b d) (aA .i64 (c+1)))
  <| b
def Gt (n:Nat)(a1:Ac)(a0:Aq)(b:Bool):Option (Bool) :=
 cnd (b)
  (some false)
 <| L5 n a1 a0
  (L4 n a1 a0
  (idx a0.fa.fStates a1.fFrom fun c =>
 bnd (Nd n c.fGuards a1) fun d =>
 some !(d)) n 0) n 0
def Ff (n:Nat)(a0:Aq)(a1:Ac):Option (Bool) :=
 jon (Gt n a1 a0) <|
 reg <| cnd (decide (((a0.ftypes.map Ap).length:Int)<=a1.fType))
  (Gt n a1 a0 true)
 <| bnd (Lz n a1.fCond) fun b =>
 Gt n a1 a0 !(b)
def Rj (n:Nat)(a0:Ac):Option (Bool) :=
 some true
def Gq (n:Nat)(a0:Aq)(c:(List Ac)->Option ((List Ac))):Nat->Int×(List Ac)->Option ((List Ac))
 |0,_=>none
 |d+1,b =>
  cnd (decide (b.1<((a0.fa.fEdges.map A5).length:Int)))
   (idx a0.fa.fEdges b.1 fun e =>
   reg <| bnd (Ff n a0 e) fun f =>
   cnd (f)
    (bnd (Rj n e) fun g =>
    cnd (g)
     (app b.2 [e] 240 fun h =>
     (Gq n a0 c d) ((aA .i64 (b.1+1)),h))
    <| (Gq n a0 c d) ((aA .i64 (b.1+1)),b.2))
   <| (Gq n a0 c d) ((aA .i64 (b.1+1)),b.2))
  <| c b.2
def O8 (n:Nat)(a0:Aq):Option ((List Ac)) :=
 Gq n a0
  (fun b=>some b) n (0,[])
def Gs (n:Nat)(d:(List Ac)×Bool×(List (Int×Bool)))(c:Bool->(List (Int×Bool))->Option ((List (Int×Bool)))):Nat->Bool×Int×(List (Int×Bool))->Option ((List (Int×Bool)))
 |0,_=>none
 |e+1,b =>
  cnd (decide (b.2.1<((d.1.map A5).length:Int)))
   (idx d.1 b.2.1 fun f =>
   reg <| mgt b.2.2 f.fTo (false:Bool) fun g k =>
   cnd (g)
    (mgt b.2.2 f.fFrom (false:Bool) fun h l =>
    cnd (!(h))
     (mst b.2.2 f.fFrom true fun j =>
     (Gs n d c e) (true,(aA .i64 (b.2.1+1)),j))
    <| (Gs n d c e) (b.1,(aA .i64 (b.2.1+1)),b.2.2))
   <| (Gs n d c e) (b.1,(aA .i64 (b.2.1+1)),b.2.2))
  <| c b.1 b.2.2
def I9 (n:Nat)(c:(List (Int×Bool))->Option ((List (Int×Bool)))):Nat->(List Ac)×Bool×(List (Int×Bool))->Option ((List (Int×Bool)))
 |0,_=>none
 |f+1,b =>
  cnd (b.2.1)
   (Gs n b
     (fun d e=>(I9 n c f) (b.1,d,e)) n (false,0,b.2.2))
  <| c b.2.2
def Dd (n:Nat)(a0:Aq):Option ((List (Int×Bool))) :=
 bnd (O8 n a0) fun x1 =>
 mst [] (-1) true fun x2 =>
 I9 n
  (fun b=>mde b (-1) fun c =>
 some c) n (x1,true,x2)
def Qv (n:Nat)(a0:B0)(a1:Int):Option (Bool) :=
 some (decide (a0.fType=a1))
def Kg (n:Nat)(d:Int)(a0:(List B0))(c:Option (Int)):Nat->Int->Option (Int)
 |0,_=>none
 |e+1,b =>
  cnd (decide (b<((a0.map B4).length:Int)))
   (idx a0 b fun f =>
   bnd (Qv n f d) fun g =>
   cnd (g)
    (some b)
   <| (Kg n d a0 c e) (aA .i64 (b+1)))
  <| c
def R7 (n:Nat)(a0:(List B0))(b:Int):Option (Int) :=
 Kg n b a0
  (some (-1)) n 0
def Qq (n:Nat)(a0:(List B0))(b:Int):Option (Bool) :=
 bnd (R7 n a0 b) fun x1 =>
 some (decide (0<=x1))
def Ia (n:Nat)(a0:Aq)(a1:Int)(a2:Int):Option (Bool) :=
 idx a0.fa.fStates a1 fun x1 =>
 bnd (Qq n x1.fGuards a2) fun x2 =>
 some x2
def Lb (n:Nat)(a0:Ac)(m0:Aq)(m1:Int):Option (Bool×Aq×Int) :=
 cnd (decide (0<=a0.fTo))
  (bnd (Ia n m0 0 a0.fType) fun x1 =>
  cnd (!(x1))
   (bnd (Ia n m0 m1 a0.fType) fun x2 =>
   some (!(x2),m0,m1))
  <| some (false,m0,m1))
 <| some (false,m0,m1)
def Gg (n:Nat)(a0:Aq)(d:(List Aw)->Int->Int->(List D1)->(List Ac)->Int->(List Ac)->Option ((List Ac)×Aq×Int)):Nat->Int×(List Aw)×Int×Int×(List D1)×(List Ac)×Int×(List Ac)->Option ((List Ac)×Aq×Int)
 |0,_=>none
 |e+1,b =>
  cnd (decide (b.1<((a0.fa.fEdges.map A5).length:Int)))
   (idx a0.fa.fEdges b.1 fun f =>
   bnd (Ff n a0 f) fun g =>
   cnd (g)
    (bndM 22 (Lb n f (⟨b.2.1,⟨b.2.2.1,b.2.2.2.1,b.2.2.2.2.1,b.2.2.2.2.2.1⟩⟩:Aq) b.2.2.2.2.2.2.1) fun c =>
    cnd (c.1)
     (app b.2.2.2.2.2.2.2 [f] 240 fun h =>
     (Gg n a0 d e) ((aA .i64 (b.1+1)),c.2.1.ftypes,c.2.1.fa.fVars,c.2.1.fa.fScopes,c.2.1.fa.fStates,c.2.1.fa.fEdges,c.2.2,h))
    <| (Gg n a0 d e) ((aA .i64 (b.1+1)),c.2.1.ftypes,c.2.1.fa.fVars,c.2.1.fa.fScopes,c.2.1.fa.fStates,c.2.1.fa.fEdges,c.2.2,b.2.2.2.2.2.2.2))
   <| (Gg n a0 d e) ((aA .i64 (b.1+1)),b.2.1,b.2.2.1,b.2.2.2.1,b.2.2.2.2.1,b.2.2.2.2.2.1,b.2.2.2.2.2.2.1,b.2.2.2.2.2.2.2))
  <| d b.2.1 b.2.2.1 b.2.2.2.1 b.2.2.2.2.1 b.2.2.2.2.2.1 b.2.2.2.2.2.2.1 b.2.2.2.2.2.2.2
def Nf (n:Nat)(a0:Aq)(m0:Aq)(m1:Int):Option ((List Ac)×Aq×Int) :=
 Gg n a0
  (fun b c d e f g h=>frz 7027 <| reg <| some (h,⟨b,⟨c,d,e,f⟩⟩,g)) n (0,m0.ftypes,m0.fa.fVars,m0.fa.fScopes,m0.fa.fStates,m0.fa.fEdges,m1,[])
def Gk (n:Nat)(b:Int->(List Ac)->(List (Int×Bool))->Int->Option ((List Int)×(List Ac)×(List (Int×Bool))×Int))(m0:(List Ac))(a0:Int)(d:(List Ac)->Int->(List (Int×Bool))->Option ((List Int)×(List Ac)×(List (Int×Bool))×Int)):Nat->Int×(List Ac)×Int×(List (Int×Bool))->Option ((List Int)×(List Ac)×(List (Int×Bool))×Int)
 |0,_=>none
 |g+1,c =>
  cnd (decide (c.1<((m0.map A5).length:Int)))
   (idx m0 c.1 fun f =>
   cnd (!decide (f.fFrom=a0))
    ((Gk n b m0 a0 d g) ((aA .i64 (c.1+1)),c.2.1,c.2.2.1,c.2.2.2))
   <| mgt c.2.2.2 f.fTo (false:Bool) fun k p =>
   cnd (k)
    ((Gk n b m0 a0 d g) ((aA .i64 (c.1+1)),c.2.1,c.2.2.1,c.2.2.2))
   <| cnd (decide (f.fTo=c.2.2.1))
    (bld ([f.fType]:List Int) fun h =>
    nlz h <| some (h,c.2.1,c.2.2.2,c.2.2.1))
   <| mst c.2.2.2 f.fTo true fun l =>
   bndM 39 (b f.fTo c.2.1 l c.2.2.1) fun e =>
   cnd (!(e.1.map aI).isEmpty)
    (nlw 9 <| reg <| bld ([f.fType]:List Int) fun o =>
    app o e.1 8 fun j =>
    nlz j <| some (j,e.2.1,e.2.2.1,e.2.2.2))
   <| (Gk n b m0 a0 d g) ((aA .i64 (c.1+1)),e.2.1,e.2.2.2,e.2.2.1))
  <| d c.2.1 c.2.2.1 c.2.2.2
def Ih:Nat->Int->(List Ac)->(List (Int×Bool))->Int->Option ((List Int)×(List Ac)×(List (Int×Bool))×Int)
 |0,_,_,_,_=>none
 |n+1,a0,m0,m1,m2 =>
 Gk n (Ih n) m0 a0
  (fun b c d=>some ([],b,d,c)) n (0,m0,m2,m1)
def Lo (n:Nat)(a0:Aq)(a1:Int):Option ((List Int)) :=
 bndM 10 (Nf n a0 a0 a1) fun x1 =>
 bndM 14 (Ih n 0 x1.1 [] x1.2.2) fun x2 =>
 some x2.1
def Ks (n:Nat)(a1:(List Int))(a0:Aq)(g:Int×(List Au))(f:Int)(d:Aw)(c:Int->(List A4)->Option ((List Au))):Nat->Int×(List A4)->Option ((List Au))
 |0,_=>none
 |e+1,b =>
  cnd (decide (b.1<((d.fFields.map Cu).length:Int)))
   (idx d.fFields b.1 fun h =>
   app b.2 ([⟨h.fKind,0,ByteArray.empty⟩]) 32 fun j =>
   (Ks n a1 a0 g f d c e) ((aA .i64 (b.1+1)),j))
  <| c f b.2
def Kt (n:Nat)(a1:(List Int))(a0:Aq)(c:(List Au)->Option ((List Au))):Nat->Int×(List Au)->Option ((List Au))
 |0,_=>none
 |f+1,b =>
  cnd (decide (b.1<((a1.map aI).length:Int)))
   (idx a1 b.1 fun g =>
   idx a0.ftypes g fun h =>
   Ks n a1 a0 b g h
    (fun d e=>frz 7039 <| reg <| app b.2 ([⟨0,b.1,d,b.1,e⟩]) 56 fun j =>
   (Kt n a1 a0 c f) ((aA .i64 (b.1+1)),j)) n (0,[]))
  <| c b.2
def O4 (n:Nat)(a0:Aq)(a1:(List Int)):Option ((List Au)) :=
 Kt n a1 a0
  (fun b=>some b) n (0,[])
def H6 (n:Nat)(a1:A8)(a0:(List Aw))(x3:(List (Int×Bool)))(b:Option (Bm×Int)):Nat->Int->Option (Bm×Int)
 |0,_=>none
 |d+1,c =>
  cnd (decide (c<((a1.fStates.map Al).length:Int)))
   (mgv x3 c (false:Bool) fun f h =>
   cnd (!(f))
    ((H6 n a1 a0 x3 b d) (aA .i64 (c+1)))
   <| bnd (Lo n (⟨a0,a1⟩:Aq) c) fun e =>
   cnd (!(e.map aI).isEmpty)
    (nlw 14 <| reg <| bnd (O4 n (⟨a0,a1⟩:Aq) e) fun g =>
    some (⟨2,0,g,((e.map aI).length:Int)⟩,0))
   <| (H6 n a1 a0 x3 b d) (aA .i64 (c+1)))
  <| b
noncomputable def D8 (n:Nat)(a0:(List Aw))(a1:A8)(a2:Int):Option (Bm×Int) :=
 bnd (Fx n a0 a1 a2) fun x1 =>
 cnd (!decide (x1=0))
  (some (⟨0,0,[],0⟩,x1))
 <| bnd (Fy n a1 a2) fun x2 =>
 cnd (x2.2)
  (some (⟨1,x2.1,[],0⟩,0))
 <| bnd (Dd n (⟨a0,a1⟩:Aq)) fun x3 =>
 H6 n a1 a0 x3
  (some (⟨0,0,[],0⟩,0)) n 0
structure Fo where
 fsource:Int
 fseq:Int
deriving DecidableEq,Inhabited
def J6 (x:Fo):AV:=.agg [aI (x.fsource),aI (x.fseq)]
def Pb (n:Nat)(a0:Au):Option (Bool) :=
 cnd (decide (0<=a0.fTime))
  (cnd (decide (a0.fTime<=1099511627776))
    (cnd (decide (0<=a0.fSource))
      (cnd (decide (a0.fSource<8))
        (cnd (decide (0<=a0.fSeq))
          (some (decide (a0.fSeq<=1099511627776)))
        <| some false)
      <| some false)
    <| some false)
  <| some false)
 <| some false
def Pw (n:Nat)(a0:Au):Option (Da) :=
 some (⟨a0.fTime,a0.fSource,a0.fSeq⟩)
def Pd (n:Nat)(a0:Au)(a1:Au):Option (Int) :=
 bnd (Pw n a0) fun x1 =>
 bnd (Pw n a1) fun x2 =>
 cnd ((decide (x1.fTime=x2.fTime) && (decide (x1.fSource=x2.fSource) && (decide (x1.fSeq=x2.fSeq) && true))))
  (some 0)
 <| bnd (D0 n a0.fTime a1.fTime) fun x3 =>
 bnd (D0 n a0.fSource a1.fSource) fun x4 =>
 bnd (D0 n a0.fSeq a1.fSeq) fun x5 =>
 bnd (G5 n ([x3,x4,x5])) fun x6 =>
 some x6
def Jp (n:Nat)(a0:Au):Option (Fo) :=
 some (⟨a0.fSource,a0.fSeq⟩)
def J8 (n:Nat)(a0:(List Au))(c:Option (Int)):Nat->Int×(List (Fo×Bool))->Option (Int)
 |0,_=>none
 |e+1,b =>
  cnd (decide (b.1<((a0.map Am).length:Int)))
   (idx a0 b.1 fun d =>
   bnd (Pb n d) fun f =>
   cnd (!(f))
    (some 2)
   <| cnd (decide (0<b.1))
    (idx a0 (aA .i64 (b.1-1)) fun g =>
    bnd (Pd n g d) fun h =>
    cnd (decide (0<=h))
     (some 14)
    <| bnd (Jp n d) fun j =>
    mgt b.2 j (false:Bool) fun k u =>
    cnd (k)
     (some 7)
    <| bnd (Jp n d) fun l =>
    mst b.2 l true fun o =>
    (J8 n a0 c e) ((aA .i64 (b.1+1)),o))
   <| bnd (Jp n d) fun p =>
   mgt b.2 p (false:Bool) fun q v =>
   cnd (q)
    (some 7)
   <| bnd (Jp n d) fun s =>
   mst b.2 s true fun t =>
   (J8 n a0 c e) ((aA .i64 (b.1+1)),t))
  <| c
def Pf (n:Nat)(a0:(List Au)):Option (Int) :=
 cnd (decide (4096<((a0.map Am).length:Int)))
  (some 5)
 <| J8 n a0
  (some 0) n (0,[])
structure zig where
 fa:A8
 fheld:(List (Da×Au))
deriving Inhabited
def Fm (n:Nat)(b:Bool):Option (Int) :=
 cnd (b)
  (some 2)
 <| some 0
def J5 (n:Nat)(a0:Au)(b:Bool):Option (Int) :=
 cnd (b)
  (some 32)
 <| jon (Fm n) <|
 reg <| cnd (decide (a0.fSeq<0))
  (Fm n true)
 <| cnd (decide (1099511627776<a0.fSeq))
  (Fm n true)
 <| cnd (decide (a0.fTime<0))
  (Fm n true)
 <| Fm n (decide (1099511627776<a0.fTime))
def Pc (n:Nat)(a0:Au):Option (Int) :=
 jon (J5 n a0) <|
 reg <| cnd (decide (a0.fSource<0))
  (J5 n a0 true)
 <| J5 n a0 (decide (8<=a0.fSource))
def M5 (n:Nat)(a1:Au)(x3:Aw)(c:Option (Int)):Nat->Int->Option (Int)
 |0,_=>none
 |d+1,b =>
  cnd (decide (b<((a1.fValues.map A6).length:Int)))
   (idx a1.fValues b fun e =>
   bnd (Er n e) fun f =>
   cnd (!decide (f=0))
    (some f)
   <| idx x3.fFields b fun g =>
   cnd (!decide (e.fKind=g.fKind))
    (some 9)
   <| (M5 n a1 x3 c d) (aA .i64 (b+1)))
  <| c
def Ft (n:Nat)(a1:Au)(a0:(List Aw))(b:Bool):Option (Int) :=
 cnd (b)
  (some 6)
 <| idx a0 a1.fType fun x3 =>
 cnd (!decide (((a1.fValues.map A6).length:Int)=((x3.fFields.map Cu).length:Int)))
  (some 15)
 <| M5 n a1 x3
  (some 0) n 0
def Sk (n:Nat)(a0:(List Aw))(a1:Au):Option (Int) :=
 bnd (Pc n a1) fun x1 =>
 cnd (!decide (x1=0))
  (some x1)
 <| jon (Ft n a1 a0) <|
 reg <| cnd (decide (a1.fType<0))
  (Ft n a1 a0 true)
 <| Ft n a1 a0 (decide (((a0.map Ap).length:Int)<=a1.fType))
def Fz (n:Nat)(a0:(List Aw))(a1:Au):Option (Int) :=
 bnd (D6 n a0) fun x1 =>
 cnd (!decide (x1=0))
  (some x1)
 <| bnd (Sk n a0 a1) fun x2 =>
 some x2
def J1 (n:Nat)(b:Bool):Option (Int) :=
 cnd (b)
  (some 2)
 <| some 0
def J2 (n:Nat)(a0:Bm)(b:Int):Option (Int) :=
 jon (J1 n) <|
 reg <| cnd (decide (a0.fPeriod<=b))
  (J1 n true)
 <| J1 n (decide (1099511627776<a0.fPeriod))
def Fu (n:Nat)(a0:Bm):Option (Int) :=
 jon (J2 n a0) <|
 reg <| cnd (decide (0<((a0.fPrefix.map Am).length:Int)))
  (idx a0.fPrefix (aA .i64 (((a0.fPrefix.map Am).length:Int)-1)) fun x5 =>
  idx a0.fPrefix 0 fun x6 =>
  J2 n a0 (aA .i64 (x5.fTime-x6.fTime)))
 <| J2 n a0 0
def Qw (n:Nat)(a0:Int)(a1:Aq)(a2:Int):Option (Bool) :=
 bnd (Ia n a1 a2 a0) fun x1 =>
 some x1
def Kf (n:Nat)(d:Int)(e:Aq)(a0:(List Int))(c:Option (Int)):Nat->Int->Option (Int)
 |0,_=>none
 |f+1,b =>
  cnd (decide (b<((a0.map aI).length:Int)))
   (idx a0 b fun g =>
   bnd (Qw n g e d) fun h =>
   cnd (h)
    (some b)
   <| (Kf n d e a0 c f) (aA .i64 (b+1)))
  <| c
def R6 (n:Nat)(a0:(List Int))(b:Aq)(c:Int):Option (Int) :=
 Kf n c b a0
  (some (-1)) n 0
def Qp (n:Nat)(a0:(List Int))(b:Aq)(c:Int):Option (Bool) :=
 bnd (R6 n a0 b c) fun x1 =>
 some (decide (0<=x1))
def Ib (n:Nat)(a0:Int)(m0:(List Int))(m1:Aq):Option (Bool×(List Int)×Aq) :=
 bnd (Qp n m0 m1 a0) fun x1 =>
 some (!(x1),m0,m1)
def Nx (n:Nat)(a0:Ac)(m0:Int)(m1:(List (Int×Bool))):Option (Bool×Int×(List (Int×Bool))) :=
 cnd (decide (0<=a0.fTo))
  (cnd (decide (a0.fType=m0))
    (mgt m1 a0.fFrom (false:Bool) fun x1 x2 =>
    some (x1,m0,m1))
  <| some (false,m0,m1))
 <| some (false,m0,m1)
def Gf (n:Nat)(a0:Aq)(c:Int->(List Ac)->(List (Int×Bool))->Option ((List Ac)×Int×(List (Int×Bool)))):Nat->Int×Int×(List Ac)×(List (Int×Bool))->Option ((List Ac)×Int×(List (Int×Bool)))
 |0,_=>none
 |d+1,b =>
  cnd (decide (b.1<((a0.fa.fEdges.map A5).length:Int)))
   (idx a0.fa.fEdges b.1 fun f =>
   bnd (Ff n a0 f) fun g =>
   cnd (g)
    (bndM 22 (Nx n f b.2.1 b.2.2.2) fun e =>
    cnd (e.1)
     (app b.2.2.1 [f] 240 fun h =>
     (Gf n a0 c d) ((aA .i64 (b.1+1)),e.2.1,h,e.2.2))
    <| (Gf n a0 c d) ((aA .i64 (b.1+1)),e.2.1,b.2.2.1,e.2.2))
   <| (Gf n a0 c d) ((aA .i64 (b.1+1)),b.2.1,b.2.2.1,b.2.2.2))
  <| c b.2.1 b.2.2.1 b.2.2.2
def Kj (n:Nat)(a0:Aq)(m0:Int)(m1:(List (Int×Bool))):Option ((List Ac)×Int×(List (Int×Bool))) :=
 Gf n a0
  (fun b c d=>frz 7027 <| reg <| some (c,b,d)) n (0,m0,[],m1)
noncomputable def I2 (n:Nat)(d:Option (Bool)):Nat->(List Int)×(List Aw)×Int×Int×(List D1)×(List Ac)×(List (Int×Bool))->Option (Bool)
 |0,_=>none
 |e+1,b =>
  nxt b.2.2.2.2.2.2
   (d)
  <| pck b.2.2.2.2.2.2 fun f g =>
  reg <| bndM 56 (Ib n f.1 b.1 (⟨b.2.1,⟨b.2.2.1,b.2.2.2.1,b.2.2.2.2.1,b.2.2.2.2.2.1⟩⟩:Aq)) fun c =>
  cnd (c.1)
   (some true)
  <| (I2 n d e) (c.2.1,c.2.2.ftypes,c.2.2.fa.fVars,c.2.2.fa.fScopes,c.2.2.fa.fStates,c.2.2.fa.fEdges,g)
def Ky (n:Nat)(f:Bool×(List Aw)×Int×Int×(List D1)×(List Ac)×(List Int))(g:Int×(List (Int×Bool)))(d:(List Ac)×Int×(List (Int×Bool)))(c:(List (Int×Bool))->(List (Int×Bool))->Option (Bool)):Nat->Int×(List (Int×Bool))->Option (Bool)
 |0,_=>none
 |e+1,b =>
  cnd (decide (b.1<((d.1.map A5).length:Int)))
   (idx d.1 b.1 fun h =>
   mst b.2 h.fTo true fun j =>
   (Ky n f g d c e) ((aA .i64 (b.1+1)),j))
  <| c b.2 d.2.2
def I3 (n:Nat)(b:Bool×(List Aw)×Int×Int×(List D1)×(List Ac)×(List Int))(d:(List (Int×Bool))->Option (Bool)):Nat->Int×(List (Int×Bool))->Option (Bool)
 |0,_=>none
 |f+1,c =>
  cnd (decide (c.1<((b.2.2.2.2.2.2.map aI).length:Int)))
   (idx b.2.2.2.2.2.2 c.1 fun h =>
   bndM 33 (Kj n (⟨b.2.1,⟨b.2.2.1,b.2.2.2.1,b.2.2.2.2.1,b.2.2.2.2.2.1⟩⟩:Aq) h c.2) fun j =>
   Ky n b c j
    (fun e g=>(I3 n b d f) ((aA .i64 (c.1+1)),e)) n (0,[]))
  <| d c.2
noncomputable def Gp (n:Nat)(b:Bool×(List Aw)×Int×Int×(List D1)×(List Ac)×(List Int)):Option (Bool) :=
 cnd (b.1)
  (some false)
 <| mst [] 0 true fun x9 =>
 I3 n b
  (fun c=>frs 7022 c <| reg <| bnd (Dd n (⟨b.2.1,⟨b.2.2.1,b.2.2.2.1,b.2.2.2.2.1,b.2.2.2.2.2.1⟩⟩:Aq)) fun d =>
 bnd (Je n (C1 c) d) fun e =>
 I2 n
  (some false) n (b.2.2.2.2.2.2,b.2.1,b.2.2.1,b.2.2.2.1,b.2.2.2.2.1,b.2.2.2.2.2.1,e)) n (0,x9)
noncomputable def Ip (n:Nat)(a0:Aq)(a1:(List Int)):Option (Bool) :=
 jon (Gp n) <|
 reg <| cnd (decide (((a1.map aI).length:Int)=0))
  (Gp n (true,a0.ftypes,a0.fa.fVars,a0.fa.fScopes,a0.fa.fStates,a0.fa.fEdges,a1))
 <| bndM 19 (Ib n 0 a1 a0) fun b =>
 Gp n (!(b.1),b.2.2.ftypes,b.2.2.fa.fVars,b.2.2.fa.fScopes,b.2.2.fa.fStates,b.2.2.fa.fEdges,b.2.1)
def Ho (n:Nat)(a2:Bm)(a1:Int)(a0:Aq)(d:(List Int))(c:Option (Int)):Nat->Int->Option (Int)
 |0,_=>none
 |e+1,b =>
  cnd (decide (b<((a2.fPrefix.map Am).length:Int)))
   (idx a2.fPrefix b fun f =>
   idx a2.fPrefix (aA .i64 (b-a1)) fun g =>
   cnd (decide (f.fTime=g.fTime))
    (some 5)
   <| (Ho n a2 a1 a0 d c e) (aA .i64 (b+1)))
  <| c
def Kd (n:Nat)(a2:Bm)(a1:Int)(a0:Aq)(c:(List Int)->Option (Int)):Nat->Int×(List Int)->Option (Int)
 |0,_=>none
 |d+1,b =>
  cnd (decide (b.1<((a2.fPrefix.map Am).length:Int)))
   (idx a2.fPrefix b.1 fun e =>
   bnd (Fz n a0.ftypes e) fun f =>
   cnd (!decide (f=0))
    (some f)
   <| app b.2 [e.fType] 8 fun g =>
   (Kd n a2 a1 a0 c d) ((aA .i64 (b.1+1)),g))
  <| c b.2
noncomputable def Nr (n:Nat)(a0:Aq)(a1:Int)(a2:Bm):Option (Int) :=
 bnd (Pf n a2.fPrefix) fun x1 =>
 cnd (!decide (x1=0))
  (some x1)
 <| Kd n a2 a1 a0
  (fun b=>Ho n a2 a1 a0 b
  (bnd (Fu n a2) fun c =>
 cnd (!decide (c=0))
  (some c)
 <| bnd (Ip n a0 b) fun d =>
 cnd (!(d))
  (some 18)
 <| some 0) n a1) n (0,[])
def J4 (n:Nat)(b:Bool):Option (Int) :=
 cnd (b)
  (some 18)
 <| some 0
noncomputable def H5 (n:Nat)(a3:Bm)(a2:Int)(a1:A8)(b:Bool):Option (Int) :=
 cnd (b)
  (some 3)
 <| bnd (Fy n a1 a2) fun x3 =>
 jon (J4 n) <|
 reg <| cnd (!(x3.2))
  (J4 n true)
 <| J4 n (decide (a3.fBound<x3.1))
noncomputable def D7 (n:Nat)(a0:(List Aw))(a1:A8)(a2:Int)(a3:Bm):Option (Int) :=
 bnd (Fx n a0 a1 a2) fun x1 =>
 cnd (!decide (x1=0))
  (some x1)
 <| cnd (decide (a3.fVerdict=1))
  (jon (H5 n a3 a2 a1) <|
  reg <| cnd (decide (0<((a3.fPrefix.map Am).length:Int)))
   (H5 n a3 a2 a1 true)
  <| H5 n a3 a2 a1 (!decide (a3.fPeriod=0)))
 <| cnd (decide (a3.fVerdict=2))
  (cnd (!decide (a3.fBound=0))
    (some 3)
  <| bnd (Nr n (⟨a0,a1⟩:Aq) a2 a3) fun x5 =>
  some x5)
 <| some 1
def Ig (n:Nat)(b:Bool):Option (Bool) :=
 some b
def Iy (n:Nat)(a0:Ah):Option (Bool) :=
 jon (Ig n) <|
 reg <| bnd (Em n a0 200) fun x4 =>
 cnd (decide (x4<=200))
  (bnd (El n a0) fun x5 =>
  Ig n (decide (x5<=100)))
 <| Ig n false
def L6 (n:Nat)(a0:(List B0))(b:Option (Bool)):Nat->Int->Option (Bool)
 |0,_=>none
 |d+1,c =>
  cnd (decide (c<((a0.map B4).length:Int)))
   (idx a0 c fun e =>
   bnd (Iy n e.fCond) fun f =>
   cnd (!(f))
    (some false)
   <| (L6 n a0 b d) (aA .i64 (c+1)))
  <| b
def Oc (n:Nat)(a0:(List B0)):Option (Bool) :=
 L6 n a0
  (some true) n 0
def Ie (n:Nat)(b:Bool):Option (Bool) :=
 some b
def L7 (n:Nat)(a0:A8)(f:Int)(d:Ac)(b:Option (Bool)):Nat->Int->Option (Bool)
 |0,_=>none
 |e+1,c =>
  cnd (decide (c<((d.fChecks.map idA).length:Int)))
   (idxD Bs d.fChecks c fun g =>
   bnd (Iy n g) fun h =>
   cnd (!(h))
    (some false)
   <| (L7 n a0 f d b e) (aA .i64 (c+1)))
  <| b
def Dz (n:Nat)(a0:A8)(b:Int)(c:Int->Option (Bool))(e:Ac)(d:Bool):Option (Bool) :=
 cnd (d)
  (some false)
 <| L7 n a0 b e
  (c (aA .i64 (b+1))) n 0
def I7 (n:Nat)(a0:A8)(d:Int)(e:Option (Bool))(c:Int->Option (Bool))(f:Bool):Option (Bool) :=
 cnd (f)
  (idx a0.fEdges d fun b =>
  jon (Dz n a0 d c b) <|
  reg <| bnd (Iy n b.fCond) fun g =>
  cnd (!(g))
   (Dz n a0 d c b true)
  <| cnd (decide (8<((b.fChecks.map idA).length:Int)))
   (Dz n a0 d c b true)
  <| cnd (decide (12<((b.fOpens.map aI).length:Int)))
   (Dz n a0 d c b true)
  <| cnd (decide (12<((b.fCloses.map aI).length:Int)))
   (Dz n a0 d c b true)
  <| cnd (decide (12<((b.fInside.map aI).length:Int)))
   (Dz n a0 d c b true)
  <| Dz n a0 d c b (decide (12<((b.fLimits.map Bi).length:Int))))
 <| e
def Gv (n:Nat)(a0:A8)(b:Option (Bool)):Nat->Int->Option (Bool)
 |0,_=>none
 |d+1,c =>
  jon (I7 n a0 c b (Gv n a0 b d)) <|
  reg <| cnd (decide (c<((a0.fEdges.map A5).length:Int)))
   (I7 n a0 c b (Gv n a0 b d) (decide (c<60)))
  <| I7 n a0 c b (Gv n a0 b d) false
def Ek (n:Nat)(a0:A8)(d:Int)(b:Int->Option (Bool))(c:Bool):Option (Bool) :=
 cnd (c)
  (some false)
 <| b (aA .i64 (d+1))
def I6 (n:Nat)(a0:A8)(b:Int)(d:Option (Bool))(c:Int->Option (Bool))(e:Bool):Option (Bool) :=
 cnd (e)
  (jon (Ek n a0 b c) <|
  reg <| idx a0.fStates b fun f =>
  cnd (decide (12<((f.fGuards.map B4).length:Int)))
   (idx a0.fStates b fun g =>
   cnd (decide (((g.fGuards.map B4).length:Int)<=64))
    (Ek n a0 b c true)
   <| idx a0.fStates b fun h =>
   cnd (decide (70<((h.fGuards.map B4).length:Int)))
    (Ek n a0 b c true)
   <| idx a0.fStates b fun j =>
   bnd (Oc n j.fGuards) fun k =>
   Ek n a0 b c !(k))
  <| idx a0.fStates b fun l =>
  cnd (decide (70<((l.fGuards.map B4).length:Int)))
   (Ek n a0 b c true)
  <| idx a0.fStates b fun o =>
  bnd (Oc n o.fGuards) fun p =>
  Ek n a0 b c !(p))
 <| d
def Gw (n:Nat)(a0:A8)(b:Option (Bool)):Nat->Int->Option (Bool)
 |0,_=>none
 |d+1,c =>
  jon (I6 n a0 c b (Gw n a0 b d)) <|
  reg <| cnd (decide (c<((a0.fStates.map Al).length:Int)))
   (I6 n a0 c b (Gw n a0 b d) (decide (c<30)))
  <| I6 n a0 c b (Gw n a0 b d) false
def Od (n:Nat)(a0:A8):Option (Bool) :=
 Gw n a0
  (Gv n a0
  (jon (Ie n) <|
 reg <| cnd (decide (((a0.fStates.map Al).length:Int)<=20))
  (Ie n (decide (((a0.fEdges.map A5).length:Int)<=40)))
 <| Ie n false) n 0) n 0
def La (n:Nat)(a0:(List A4))(b:Option (Bool)):Nat->Int->Option (Bool)
 |0,_=>none
 |d+1,c =>
  cnd (decide (c<((a0.map A6).length:Int)))
   (cnd (decide (c<40))
     (idx a0 c fun e =>
     cnd (decide (128<((e.fText.size:Nat):Int)))
      (some false)
     <| (La n a0 b d) (aA .i64 (c+1)))
   <| b)
  <| b
def Og (n:Nat)(a0:(List A4)):Option (Bool) :=
 La n a0
  (some (decide (((a0.map A6).length:Int)<40))) n 0
def L9 (n:Nat)(a0:(List Au))(b:Option (Bool)):Nat->Int->Option (Bool)
 |0,_=>none
 |d+1,c =>
  cnd (decide (c<((a0.map Am).length:Int)))
   (cnd (decide (c<20))
     (idx a0 c fun e =>
     cnd (decide (12<((e.fValues.map A6).length:Int)))
      (some false)
     <| idx a0 c fun f =>
     bnd (Og n f.fValues) fun g =>
     cnd (!(g))
      (some false)
     <| (L9 n a0 b d) (aA .i64 (c+1)))
   <| b)
  <| b
def Oe (n:Nat)(a0:(List Au)):Option (Bool) :=
 L9 n a0
  (some (decide (((a0.map Am).length:Int)<=12))) n 0
attribute [irreducible] J9 E3 E5 Dg Io H9 Ja Ei F7 Eh Jb Hp Ht Hu H7 Fl Ij Ii Jh Iv Hs Gt                    Fm J5 Ft J1 J2 Gp J4 H5   Ig Ie Dz I7 Ek I6                
end Go.Proofs.YthbogefcfhmpgaaGreat
