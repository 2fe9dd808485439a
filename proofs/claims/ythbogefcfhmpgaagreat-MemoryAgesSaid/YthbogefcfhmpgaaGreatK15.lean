/- What some functions compute, over plain values. -/
import Derived.Test.YthbogefcfhmpgaaGreatK13
import Derived.Test.YthbogefcfhmpgaaGreatK14
set_option linter.unusedVariables false
set_option linter.unusedSimpArgs false
set_option maxRecDepth 100000
set_option maxHeartbeats 8000000
namespace Go.Proofs.YthbogefcfhmpgaaGreat
open Go.RowKit
open IntKind renaming wrap->aA
def Zb (n:Nat)(a0:Cz)(a1:Cz):Option (Bool) :=
 bnd (zai n a0 a1) fun x1 =>
 some (decide (x1=0))
def V8 (n:Nat)(c:Nat)(d:Int->(List Cz)->Option ((List Cz))):Nat->Int×Int×(List Cz)->Option ((List Cz))
 |0,_=>none
 |e+1,b =>
  gle c (b.2.2.map Ec).length <|
  cnd (decide (b.2.1<((((b.2.2.map Ec).length-c:Nat)):Int)))
   (nat b.2.1 ((b.2.2.map Ec).length-c) fun g =>
   elt b.2.2 (c+g) fun h =>
   nat (aA .i64 (b.2.1-1)) ((b.2.2.map Ec).length-c) fun j =>
   elt b.2.2 (c+j) fun k =>
   bnd (Zb n h k) fun l =>
   cnd (!(l))
    (nat b.2.1 ((b.2.2.map Ec).length-c) fun o =>
    elt b.2.2 (c+o) fun p =>
    nat b.1 (b.2.2.map Ec).length fun q =>
    stx b.2.2 q (fun s=>p) fun f =>
    (V8 n c d e) ((aA .i64 (b.1+1)),(aA .i64 (b.2.1+1)),f))
   <| (V8 n c d e) (b.1,(aA .i64 (b.2.1+1)),b.2.2))
  <| d b.1 b.2.2
def z39 (n:Nat)(m0:(List Cz))(e:Option ((List Cz))):Nat->Int->Option ((List Cz))
 |0,_=>none
 |f+1,b =>
  cnd (decide (b<((m0.map Ec).length:Int)))
   (nat b (m0.map Ec).length fun g =>
   elt m0 g fun h =>
   nat (aA .i64 (b-1)) (m0.map Ec).length fun j =>
   elt m0 j fun k =>
   bnd (Zb n h k) fun l =>
   cnd (l)
    (nle b (m0.map Ec).length fun o =>
    V8 n o
     (fun c d=>nle c (d.map Ec).length fun p =>
    clr d p (⟨0,[],[]⟩:Cz) fun q =>
    sls q 0 c fun s =>
    some s) n (b,1,m0))
   <| (z39 n m0 e f) (aA .i64 (b+1)))
  <| e
structure zhi where
 fSets:(List (List Cz))
deriving DecidableEq,Inhabited
structure T7 where
 fName:ByteArray
 fKind:Int
deriving DecidableEq,Inhabited
def Dh (x:T7):AV:=.agg [.str (x.fName),aI (x.fKind)]
abbrev zej (x:T7):List AV:=[.str (x.fName),aI (x.fKind)]
structure Br where
 fName:ByteArray
 fFields:(List T7)
deriving DecidableEq,Inhabited
def Ay (x:Br):AV:=.agg [.str (x.fName),.sl 2 (x.fFields.map Dh)]
structure Du where
 fVerdict:Int
 fBound:Int
 fPrefix:(List Aw)
 fPeriod:Int
deriving DecidableEq,Inhabited
def Mj (n:Nat)(b:Bool):Option (Bool) :=
 some b
def Sw (n:Nat)(a0:Int):Option (Bool) :=
 jon (Mj n) <|
 reg <| cnd (decide (48<=a0))
  (Mj n (decide (a0<=57)))
 <| Mj n false
def Ez (n:Nat)(b:Bool):Option (Bool) :=
 some b
def Vs (n:Nat)(a0:Int):Option (Bool) :=
 jon (Ez n) <|
 reg <| cnd (decide (a0=95))
  (Ez n true)
 <| cnd (decide (97<=a0))
  (cnd (decide (a0<=122))
    (Ez n true)
  <| cnd (decide (65<=a0))
   (Ez n (decide (a0<=90)))
  <| Ez n false)
 <| cnd (decide (65<=a0))
  (Ez n (decide (a0<=90)))
 <| Ez n false
def Mu (n:Nat)(a0:ByteArray)(c:Int)(b:Int->Option (Bool))(d:Bool):Option (Bool) :=
 cnd (d)
  (some false)
 <| b (aA .i64 (c+1))
def Mt (n:Nat)(a0:ByteArray)(b:Option (Bool)):Nat->Int->Option (Bool)
 |0,_=>none
 |d+1,c =>
  cnd (decide (c<((a0.size:Nat):Int)))
   (jon (Mu n a0 c (Mt n a0 b d)) <|
   reg <| idb a0 c fun e =>
   bnd (Vs n e) fun f =>
   cnd (!(f))
    (idb a0 c fun g =>
    bnd (Sw n g) fun h =>
    Mu n a0 c (Mt n a0 b d) !(h))
   <| Mu n a0 c (Mt n a0 b d) false)
  <| b
def Jk (n:Nat)(a0:ByteArray)(b:Bool):Option (Bool) :=
 cnd (b)
  (some false)
 <| Mt n a0
  (some true) n 0
def T1 (n:Nat)(a0:ByteArray):Option (Bool) :=
 jon (Jk n a0) <|
 reg <| cnd (decide (((a0.size:Nat):Int)=0))
  (Jk n a0 true)
 <| cnd (decide (24<((a0.size:Nat):Int)))
  (Jk n a0 true)
 <| idb a0 0 fun b =>
 bnd (Sw n b) fun c =>
 Jk n a0 c
def Ly (n:Nat)(b:Bool):Option (Bool) :=
 some b
def Vq (n:Nat)(a0:ByteArray):Option (Bool) :=
 jon (Ly n) <|
 reg <| bnd (T1 n a0) fun x3 =>
 cnd (x3)
  (Ly n (!(a0.toList == (ByteArray.mk #[116,105,109,101]).toList)))
 <| Ly n false
def Mm (n:Nat)(a0:Br)(b:Int×(List (ByteArray×Bool)))(c:(Int×(List (ByteArray×Bool)))->Option (Int))(e:T7)(d:Bool):Option (Int) :=
 cnd (d)
  (some 1)
 <| mst b.2 e.fName true fun f =>
 c ((aA .i64 (b.1+1)),f)
def Ml (n:Nat)(a0:Br)(b:Option (Int)):Nat->Int×(List (ByteArray×Bool))->Option (Int)
 |0,_=>none
 |e+1,c =>
  cnd (decide (c.1<((a0.fFields.map Dh).length:Int)))
   (idx a0.fFields c.1 fun d =>
   bnd (Vq n d.fName) fun f =>
   cnd (!(f))
    (some 8)
   <| mgt c.2 d.fName (false:Bool) fun g h =>
   cnd (g)
    (some 7)
   <| jon (Mm n a0 c (Ml n a0 b e) d) <|
   reg <| cnd (decide (d.fKind<0))
    (Mm n a0 c (Ml n a0 b e) d true)
   <| Mm n a0 c (Ml n a0 b e) d (decide (3<=d.fKind)))
  <| b
def Vy (n:Nat)(a0:Br):Option (Int) :=
 bnd (T1 n a0.fName) fun x1 =>
 cnd (!(x1))
  (some 8)
 <| cnd (decide (8<((a0.fFields.map Dh).length:Int)))
  (some 5)
 <| Ml n a0
  (some 0) n (0,[])
def Sa (n:Nat)(a0:(List Br))(c:Option (Int)):Nat->Int×(List (ByteArray×Bool))->Option (Int)
 |0,_=>none
 |e+1,b =>
  cnd (decide (b.1<((a0.map Ay).length:Int)))
   (idx a0 b.1 fun d =>
   bnd (Vy n d) fun f =>
   cnd (!decide (f=0))
    (some f)
   <| mgt b.2 d.fName (false:Bool) fun g j =>
   cnd (g)
    (some 7)
   <| mst b.2 d.fName true fun h =>
   (Sa n a0 c e) ((aA .i64 (b.1+1)),h))
  <| c
def Sm (n:Nat)(a0:(List Br)):Option (Int) :=
 cnd (decide (16<((a0.map Ay).length:Int)))
  (some 5)
 <| Sa n a0
  (some 0) n (0,[])
def Mn (n:Nat)(b:Bool):Option (Int) :=
 cnd (b)
  (some 2)
 <| some 0
def Sx (n:Nat)(a0:(List Br))(a1:A8)(a2:Int):Option (Int) :=
 bnd (Sm n a0) fun x1 =>
 cnd (!decide (x1=0))
  (some x1)
 <| bnd (Bz n a1) fun x2 =>
 cnd (!decide (x2=0))
  (some x2)
 <| jon (Mn n) <|
 reg <| cnd (decide (a2<1))
  (Mn n true)
 <| Mn n (decide (4096<a2))
structure Be where
 freachable:(List (Int×Bool))
 finner:(List (Int×Bool))
deriving DecidableEq,Inhabited
def J1 (n:Nat)(a1:Int)(a0:A8)(c:(List Int)->Option ((List Int))):Nat->Int×(List Int)->Option ((List Int))
 |0,_=>none
 |d+1,b =>
  cnd (decide (b.1<((a0.fEdges.map A7).length:Int)))
   (idx a0.fEdges b.1 fun e =>
   reg <| cnd (decide (e.fFrom=a1))
    (app b.2 [b.1] 8 fun f =>
    (J1 n a1 a0 c d) ((aA .i64 (b.1+1)),f))
   <| (J1 n a1 a0 c d) ((aA .i64 (b.1+1)),b.2))
  <| c b.2
def Pe (n:Nat)(a0:A8)(a1:Int):Option ((List Int)) :=
 J1 n a1 a0
  (fun b=>some b) n (0,[])
def I4 (n:Nat)(a1:A8)(x1:(List Int))(c:(List Int)->Option ((List Int))):Nat->Int×(List Int)->Option ((List Int))
 |0,_=>none
 |d+1,b =>
  cnd (decide (b.1<((x1.map aI).length:Int)))
   (idx x1 b.1 fun f =>
   idx a1.fEdges f fun e =>
   reg <| cnd (decide (0<=e.fTo))
    (app b.2 [e.fTo] 8 fun g =>
    (I4 n a1 x1 c d) ((aA .i64 (b.1+1)),g))
   <| (I4 n a1 x1 c d) ((aA .i64 (b.1+1)),b.2))
  <| c b.2
def Oh (n:Nat)(a0:Int)(a1:A8):Option ((List Int)) :=
 bnd (Pe n a1 a0) fun x1 =>
 I4 n a1 x1
  (fun b=>some b) n (0,[])
def H5 (n:Nat)(b:Int->A8->(List Bool)->Option ((List Bool)))(a2bc0:A8)(x6:(List Int))(d:(List Bool)->Option ((List Bool))):Nat->Int×(List Bool)->Option ((List Bool))
 |0,_=>none
 |e+1,c =>
  cnd (decide (c.1<((x6.map aI).length:Int)))
   (idx x6 c.1 fun f =>
   bndM 24 (b f a2bc0 c.2) fun g =>
   (H5 n b a2bc0 x6 d e) ((aA .i64 (c.1+1)),g))
  <| d c.2
def Ey:Nat->Int->A8->(List Bool)->Option ((List Bool))
 |0,_,_,_=>none
 |n+1,a0,a2bc0,m0 =>
 nat a0 (m0.map AV.bool).length fun x1 =>
 elt m0 x1 fun x2 =>
 cnd (x2)
  (some m0)
 <| nat a0 (m0.map AV.bool).length fun x3 =>
 stx m0 x3 (fun x4=>true) fun x5 =>
 bnd (Oh n a0 a2bc0) fun x6 =>
 H5 n (Ey n) a2bc0 x6
  (fun b=>some b) n (0,x5)
def Ha (n:Nat)(d:A8)(a1:(List Int))(c:(List Bool)->Option ((List Bool))):Nat->Int×(List Bool)->Option ((List Bool))
 |0,_=>none
 |e+1,b =>
  cnd (decide (b.1<((a1.map aI).length:Int)))
   (idx a1 b.1 fun f =>
   reg <| bndM 24 (Ey n f d b.2) fun g =>
   (Ha n d a1 c e) ((aA .i64 (b.1+1)),g))
  <| c b.2
def Ji (n:Nat)(a0:A8)(a1:(List Int))(c:A8):Option ((List Bool)) :=
 mak ((a0.fStates.map Aj).length:Int) 1 (false:Bool) fun x1 =>
 Ha n c a1
  (fun b=>some b) n (0,x1)
def Ov (n:Nat)(a0:A8):Option ((List Bool)) :=
 frb 1 <| reg <| bnd (Ji n a0 [0] a0) fun x1 =>
 some x1
def J0 (n:Nat)(a0:(List Bool))(c:(List Int)->Option ((List Int))):Nat->Int×(List Int)->Option ((List Int))
 |0,_=>none
 |d+1,b =>
  cnd (decide (b.1<((a0.map AV.bool).length:Int)))
   (idx a0 b.1 fun e =>
   reg <| cnd (e)
    (app b.2 [b.1] 8 fun f =>
    (J0 n a0 c d) ((aA .i64 (b.1+1)),f))
   <| (J0 n a0 c d) ((aA .i64 (b.1+1)),b.2))
  <| c b.2
def Pd (n:Nat)(a0:(List Bool)):Option ((List Int)) :=
 J0 n a0
  (fun b=>some b) n (0,[])
def J6 (n:Nat)(a0:A8):Option ((List Int)×Int) :=
 bnd (Bz n a0) fun x1 =>
 cnd (!decide (x1=0))
  (some ([],x1))
 <| bnd (Ov n a0) fun x2 =>
 bnd (Pd n x2) fun x3 =>
 some (x3,0)
def Ir (n:Nat)(a1:A8)(a0:Int)(c:(List Int)->Option ((List Int))):Nat->Int×(List Int)->Option ((List Int))
 |0,_=>none
 |d+1,b =>
  cnd (decide (b.1<((a1.fEdges.map A7).length:Int)))
   (idx a1.fEdges b.1 fun e =>
   reg <| cnd (decide (e.fTo=a0))
    (app b.2 [e.fFrom] 8 fun f =>
    (Ir n a1 a0 c d) ((aA .i64 (b.1+1)),f))
   <| (Ir n a1 a0 c d) ((aA .i64 (b.1+1)),b.2))
  <| c b.2
def Se (n:Nat)(a0:Int)(a1:A8):Option ((List Int)) :=
 Ir n a1 a0
  (fun b=>some b) n (0,[])
def Gl (n:Nat)(b:Int->A8->(List Bool)->Option ((List Bool)))(a2bc0:A8)(x6:(List Int))(d:(List Bool)->Option ((List Bool))):Nat->Int×(List Bool)->Option ((List Bool))
 |0,_=>none
 |e+1,c =>
  cnd (decide (c.1<((x6.map aI).length:Int)))
   (idx x6 c.1 fun f =>
   bndM 24 (b f a2bc0 c.2) fun g =>
   (Gl n b a2bc0 x6 d e) ((aA .i64 (c.1+1)),g))
  <| d c.2
def Eo:Nat->Int->A8->(List Bool)->Option ((List Bool))
 |0,_,_,_=>none
 |n+1,a0,a2bc0,m0 =>
 nat a0 (m0.map AV.bool).length fun x1 =>
 elt m0 x1 fun x2 =>
 cnd (x2)
  (some m0)
 <| nat a0 (m0.map AV.bool).length fun x3 =>
 stx m0 x3 (fun x4=>true) fun x5 =>
 bnd (Se n a0 a2bc0) fun x6 =>
 Gl n (Eo n) a2bc0 x6
  (fun b=>some b) n (0,x5)
def Gs (n:Nat)(d:A8)(a1:(List Int))(c:(List Bool)->Option ((List Bool))):Nat->Int×(List Bool)->Option ((List Bool))
 |0,_=>none
 |e+1,b =>
  cnd (decide (b.1<((a1.map aI).length:Int)))
   (idx a1 b.1 fun f =>
   reg <| bndM 24 (Eo n f d b.2) fun g =>
   (Gs n d a1 c e) ((aA .i64 (b.1+1)),g))
  <| c b.2
def Fn (n:Nat)(a0:A8)(a1:(List Int))(c:A8):Option ((List Bool)) :=
 mak ((a0.fStates.map Aj).length:Int) 1 (false:Bool) fun x1 =>
 Gs n c a1
  (fun b=>some b) n (0,x1)
def J5 (n:Nat)(a0:A8)(c:(List Int)->Option ((List Bool))):Nat->Int×(List Int)->Option ((List Bool))
 |0,_=>none
 |d+1,b =>
  cnd (decide (b.1<((a0.fEdges.map A7).length:Int)))
   (idx a0.fEdges b.1 fun e =>
   reg <| cnd (decide (e.fTo<0))
    (app b.2 [e.fFrom] 8 fun f =>
    (J5 n a0 c d) ((aA .i64 (b.1+1)),f))
   <| (J5 n a0 c d) ((aA .i64 (b.1+1)),b.2))
  <| c b.2
def Pk (n:Nat)(a0:A8):Option ((List Bool)) :=
 J5 n a0
  (fun b=>frz 7020 <| frb 1 <| reg <| bnd (Fn n a0 b a0) fun c =>
 some c) n (0,[])
def Je (n:Nat)(a0:A8):Option ((List Int)×Int) :=
 bnd (Bz n a0) fun x1 =>
 cnd (!decide (x1=0))
  (some ([],x1))
 <| bnd (Pk n a0) fun x2 =>
 bnd (Pd n x2) fun x3 =>
 some (x3,0)
def N1 (n:Nat)(a0:(List Int))(c:(List (Int×Bool))->Option ((List (Int×Bool)))):Nat->Int×(List (Int×Bool))->Option ((List (Int×Bool)))
 |0,_=>none
 |d+1,b =>
  cnd (decide (b.1<((a0.map aI).length:Int)))
   (idx a0 b.1 fun e =>
   mst b.2 e true fun f =>
   (N1 n a0 c d) ((aA .i64 (b.1+1)),f))
  <| c b.2
def Q8 (n:Nat)(a0:(List Int)):Option ((List (Int×Bool))) :=
 N1 n a0
  (fun b=>some b) n (0,[])
def G4 (n:Nat)(a0:A8)(x3:(List (Int×Bool)))(x4:(List (Int×Bool)))(c:(List (Int×Bool))->(List (Int×Bool))->Option (Be)):Nat->Int×(List (Int×Bool))->Option (Be)
 |0,_=>none
 |d+1,b =>
  cnd (decide (b.1<((a0.fEdges.map A7).length:Int)))
   (idx a0.fEdges b.1 fun e =>
   reg <| cnd (decide (0<=e.fTo))
    (mgv x3 e.fFrom (false:Bool) fun f j =>
    cnd (f)
     (mgv x4 e.fTo (false:Bool) fun g k =>
     cnd (g)
      (mst b.2 e.fTo true fun h =>
      (G4 n a0 x3 x4 c d) ((aA .i64 (b.1+1)),h))
     <| (G4 n a0 x3 x4 c d) ((aA .i64 (b.1+1)),b.2))
    <| (G4 n a0 x3 x4 c d) ((aA .i64 (b.1+1)),b.2))
   <| (G4 n a0 x3 x4 c d) ((aA .i64 (b.1+1)),b.2))
  <| c x3 b.2
def G6 (n:Nat)(a0:A8):Option (Be) :=
 bnd (J6 n a0) fun x1 =>
 bnd (Je n a0) fun x2 =>
 bnd (Q8 n x1.1) fun x3 =>
 bnd (Q8 n x2.1) fun x4 =>
 G4 n a0 x3 x4
  (fun b c=>some (⟨b,c⟩)) n (0,[])
def Dp (n:Nat)(a3:(List (List (Int×Bool))))(a2:Ab)(a1:A8)(a0:Be)(b:Int×(List (Int×Bool)))(c:(Int×(List (Int×Bool)))->Option ((List (Int×Bool))))(d:Bool):Option ((List (Int×Bool))) :=
 reg <| cnd (d)
  (mst b.2 b.1 true fun e =>
  c ((aA .i64 (b.1+1)),e))
 <| c ((aA .i64 (b.1+1)),b.2)
def E9 (n:Nat)(a3:(List (List (Int×Bool))))(a2:Ab)(a1:A8)(a0:Be)(c:Int×(List (Int×Bool)))(b:(Int×(List (Int×Bool)))->Option ((List (Int×Bool))))(e:Bool)(d:Bool):Option ((List (Int×Bool))) :=
 jon (Dp n a3 a2 a1 a0 c b) <|
 reg <| mgv a0.finner a2.fFrom (false:Bool) fun f j =>
 cnd (f)
  (reg <| cnd (d)
    (cnd (!(e))
      (idx a3 a2.fFrom fun g =>
      mgv g c.1 (false:Bool) fun h k =>
      Dp n a3 a2 a1 a0 c b h)
    <| Dp n a3 a2 a1 a0 c b false)
  <| Dp n a3 a2 a1 a0 c b false)
 <| Dp n a3 a2 a1 a0 c b d
def Cw (n:Nat)(a3:(List (List (Int×Bool))))(a2:Ab)(a1:A8)(a0:Be)(b:(List (Int×Bool))->Option ((List (Int×Bool)))):Nat->Int×(List (Int×Bool))->Option ((List (Int×Bool)))
 |0,_=>none
 |d+1,c =>
  cnd (decide (c.1<a1.fScopes))
   (bnd (Eb n a2.fOpens c.1) fun e =>
   bnd (Eb n a2.fCloses c.1) fun f =>
   jon (E9 n a3 a2 a1 a0 c (Cw n a3 a2 a1 a0 b d) e) <|
   reg <| cnd (decide (a2.fFrom=0))
    (reg <| cnd (!(f))
      (E9 n a3 a2 a1 a0 c (Cw n a3 a2 a1 a0 b d) e e)
    <| E9 n a3 a2 a1 a0 c (Cw n a3 a2 a1 a0 b d) e false)
   <| E9 n a3 a2 a1 a0 c (Cw n a3 a2 a1 a0 b d) e !(f))
  <| b c.2
def Oq (n:Nat)(a0:Be)(a1:A8)(a2:Ab)(a3:(List (List (Int×Bool)))):Option ((List (Int×Bool))) :=
 Cw n a3 a2 a1 a0
  (fun b=>some b) n (0,[])
noncomputable def Jd (n:Nat)(a1:(List (Int×Bool)))(b:(List (Int×Bool))->Option ((List (Int×Bool)))):Nat->(List (Int×Bool))×(List (Int×Bool))->Option ((List (Int×Bool)))
 |0,_=>none
 |d+1,c =>
  nxt c.1
   (b c.2)
  <| pck c.1 fun e f =>
  reg <| reg <| mgv a1 e.1 (false:Bool) fun g j =>
  cnd (g)
   (mst c.2 e.1 true fun h =>
   (Jd n a1 b d) (f,h))
  <| (Jd n a1 b d) (f,c.2)
noncomputable def Mx (n:Nat)(a0:(List (Int×Bool)))(a1:(List (Int×Bool))):Option ((List (Int×Bool))) :=
 Jd n a1
  (fun b=>frs 7 b <| reg <| some (C5 b)) n (a0,[])
noncomputable def Dc (n:Nat)(a1:A8)(a0:Be)(b:Bool×Int×(List (List (Int×Bool))))(c:(Bool×Int×(List (List (Int×Bool))))->Option ((List (List (Int×Bool)))))(d:Ab)(f:Bool):Option ((List (List (Int×Bool)))) :=
 cnd (f)
  (c (b.1,(aA .i64 (b.2.1+1)),b.2.2))
 <| nat d.fTo (List.map (fun q=>AV.mapv (List.map (encM aI AV.bool) q)) (b.2.2)).length fun g =>
 elt b.2.2 g fun h =>
 bnd (Oq n a0 a1 d b.2.2) fun j =>
 bnd (Mx n h j) fun e =>
 reg <| nat d.fTo (List.map (fun q=>AV.mapv (List.map (encM aI AV.bool) q)) (b.2.2)).length fun k =>
 elt b.2.2 k fun l =>
 cnd (decide ((((List.map (encM aI AV.bool) (e)).length:Nat):Int)<(((List.map (encM aI AV.bool) (l)).length:Nat):Int)))
  (nat d.fTo (List.map (fun q=>AV.mapv (List.map (encM aI AV.bool) q)) (b.2.2)).length fun o =>
  stx b.2.2 o (fun s=>e) fun p =>
  c (true,(aA .i64 (b.2.1+1)),p))
 <| c (b.1,(aA .i64 (b.2.1+1)),b.2.2)
noncomputable def Cv (n:Nat)(a1:A8)(a0:Be)(b:Bool->(List (List (Int×Bool)))->Option ((List (List (Int×Bool))))):Nat->Bool×Int×(List (List (Int×Bool)))->Option ((List (List (Int×Bool))))
 |0,_=>none
 |e+1,c =>
  cnd (decide (c.2.1<((a1.fEdges.map A7).length:Int)))
   (idx a1.fEdges c.2.1 fun d =>
   jon (Dc n a1 a0 c (Cv n a1 a0 b e) d) <|
   reg <| cnd (decide (d.fTo<0))
    (Dc n a1 a0 c (Cv n a1 a0 b e) d true)
   <| mgv a0.freachable d.fFrom (false:Bool) fun f h =>
   cnd (!(f))
    (Dc n a1 a0 c (Cv n a1 a0 b e) d true)
   <| mgv a0.finner d.fTo (false:Bool) fun g j =>
   Dc n a1 a0 c (Cv n a1 a0 b e) d !(g))
  <| b c.1 c.2.2
noncomputable def Dn (n:Nat)(a1:A8)(a0:Be)(b:(List (List (Int×Bool)))->Option ((List (List (Int×Bool))))):Nat->Bool×(List (List (Int×Bool)))->Option ((List (List (Int×Bool))))
 |0,_=>none
 |f+1,c =>
  cnd (c.1)
   (Cv n a1 a0
     (fun d e=>(Dn n a1 a0 b f) (d,e)) n (false,0,c.2))
  <| b c.2
def Kr (n:Nat)(a1:A8)(a0:Be)(e:Nat×(Ars (List (Int×Bool)))×(List (Int×Bool)))(d:(Int×Bool))(f:(List (Int×Bool)))(c:(Ars (List (Int×Bool)))->(List (Int×Bool))->Option ((List (List (Int×Bool))))):Nat->Int×(Ars (List (Int×Bool)))->Option ((List (List (Int×Bool))))
 |0,_=>none
 |g+1,b =>
  cnd (decide (b.1<a1.fScopes))
   (ncx d.1 e.1 <|
   aob b.2 (Int.toNat d.1) fun h =>
   aup b.2 h b.1 true fun j =>
   (Kr n a1 a0 e d f c g) ((aA .i64 (b.1+1)),j))
  <| c b.2 f
noncomputable def I3 (n:Nat)(a1:A8)(a0:Be)(c:Nat->(Ars (List (Int×Bool)))->Option ((List (List (Int×Bool))))):Nat->Nat×(Ars (List (Int×Bool)))×(List (Int×Bool))->Option ((List (List (Int×Bool))))
 |0,_=>none
 |g+1,b =>
  nxt b.2.2
   (c b.1 b.2.1)
  <| pck b.2.2 fun d h =>
  reg <| ncx d.1 b.1 <|
  ast b.2.1 (Int.toNat d.1) [] fun j =>
  Kr n a1 a0 b d h
   (fun e f=>(I3 n a1 a0 c g) (b.1,e,f)) n (0,j)
noncomputable def Iq (n:Nat)(a0:Be)(a1:A8):Option ((List (List (Int×Bool)))) :=
 mkm ((a1.fStates.map Aj).length:Int) 8 fun x1 =>
 are 15 <| reg <| I3 n a1 a0
  (fun d b=>fro 15 <| reg <| Dn n a1 a0
  (fun c=>some c) n (true,(aval b))) n (x1,(mkA (List (Int×Bool)) x1),a0.finner)
def Lz (n:Nat)(b:Ak->Option (Ak))(a0:(List AV))(d:(List AV)->Option ((List AV))):Nat->Int×(List AV)->Option ((List AV))
 |0,_=>none
 |e+1,c =>
  cnd (decide (c.1<((a0.map idA).length:Int)))
   (idxD Bs a0 c.1 fun f =>
   bnd (b f) fun g =>
   app c.2 ([(Ah g)]) 88 fun h =>
   (Lz n b a0 d e) ((aA .i64 (c.1+1)),h))
  <| d c.2
def Si (n:Nat)(b:Ak->Option (Ak))(a0:(List AV)):Option ((List AV)) :=
 Lz n b a0
  (fun c=>some c) n (0,[])
def F4:Nat->Ak->Option (Ak)
 |0,_=>none
 |n+1,a0 =>
 bnd (Si n (F4 n) a0.fArgs) fun x1 =>
 some (⟨a0.fOp,x1,a0.fVar,a0.fField,a0.fKind,a0.fValue⟩)
def Kt (n:Nat)(a0:(List AV))(c:(List AV)->Option ((List AV))):Nat->Int×(List AV)->Option ((List AV))
 |0,_=>none
 |d+1,b =>
  cnd (decide (b.1<((a0.map idA).length:Int)))
   (idxD Bs a0 b.1 fun e =>
   bnd (F4 n e) fun f =>
   app b.2 ([(Ah f)]) 88 fun g =>
   (Kt n a0 c d) ((aA .i64 (b.1+1)),g))
  <| c b.2
def Rl (n:Nat)(a0:(List AV)):Option ((List AV)) :=
 Kt n a0
  (fun b=>some b) n (0,[])
def Px (n:Nat)(a0:Ab):Option (Ab) :=
 bnd (F4 n a0.fCond) fun x1 =>
 bnd (Rl n a0.fChecks) fun x2 =>
 bnd (E1 n a0.fOpens) fun x3 =>
 bnd (E1 n a0.fCloses) fun x4 =>
 bnd (E1 n a0.fInside) fun x5 =>
 bnd (E1 n a0.fLimits) fun x6 =>
 some (⟨a0.fFrom,a0.fTo,a0.fVar,a0.fType,x1,x3,x4,x2,x6,x5⟩)
def M5 (n:Nat)(a0:A8)(x3:(List Int))(c:(List Ab)->Option ((List Ab)×Int)):Nat->Int×(List Ab)->Option ((List Ab)×Int)
 |0,_=>none
 |d+1,b =>
  cnd (decide (b.1<((x3.map aI).length:Int)))
   (idx x3 b.1 fun e =>
   idx a0.fEdges e fun f =>
   bnd (Px n f) fun g =>
   app b.2 [g] 240 fun h =>
   (M5 n a0 x3 c d) ((aA .i64 (b.1+1)),h))
  <| c b.2
def Pq (n:Nat)(a0:A8)(a1:Int):Option ((List Ab)×Int) :=
 bnd (Bz n a0) fun x1 =>
 cnd (!decide (x1=0))
  (some ([],x1))
 <| bnd (Dr n a1 ((a0.fStates.map Aj).length:Int)) fun x2 =>
 cnd (!(x2))
  (some ([],6))
 <| bnd (Pe n a0 a1) fun x3 =>
 M5 n a0 x3
  (fun b=>some (b,0)) n (0,[])
def So (n:Nat)(a0:C0)(a1:Int):Option (Bool) :=
 some (decide (a0.fScope=a1))
def Kq (n:Nat)(d:Int)(a0:(List C0))(c:Option (Int)):Nat->Int->Option (Int)
 |0,_=>none
 |e+1,b =>
  cnd (decide (b<((a0.map Bj).length:Int)))
   (idx a0 b fun f =>
   bnd (So n f d) fun g =>
   cnd (g)
    (some b)
   <| (Kq n d a0 c e) (aA .i64 (b+1)))
  <| c
def Oe (n:Nat)(a0:(List C0))(b:Int):Option (Int) :=
 Kq n b a0
  (some (-1)) n 0
def Hh (n:Nat)(a0:Ab)(x1:Int)(b:Bool):Option (Int×Bool) :=
 cnd (b)
  (some (0,false))
 <| idx a0.fLimits x1 fun x4 =>
 some (x4.fSpan,true)
def Hl (n:Nat)(a0:Ab)(a1:Int):Option (Int×Bool) :=
 bnd (Oe n a0.fLimits a1) fun x1 =>
 jon (Hh n a0 x1) <|
 reg <| cnd (decide (x1<0))
  (Hh n a0 x1 true)
 <| bnd (Eb n a0.fOpens a1) fun x5 =>
 Hh n a0 x1 x5
def Jm (n:Nat)(a0:(List Ab))(e:Int×Bool×(List (Int×Bool)))(f:(Int×Bool))(g:(List (Int×Bool)))(c:Int->Bool->(List (Int×Bool))->Option (Int×Bool)):Nat->Int×Bool×Int->Option (Int×Bool)
 |0,_=>none
 |d+1,b =>
  cnd (decide (b.2.2<((a0.map A7).length:Int)))
   (idx a0 b.2.2 fun j =>
   bnd (Hl n j f.1) fun h =>
   reg <| cnd (b.2.1)
    ((Jm n a0 e f g c d) ((max b.1 h.1),h.2,(aA .i64 (b.2.2+1))))
   <| (Jm n a0 e f g c d) ((max b.1 h.1),false,(aA .i64 (b.2.2+1))))
  <| c b.1 b.2.1 g
noncomputable def G5 (n:Nat)(a0:(List Ab))(d:Int->Bool->Option (Int×Bool)):Nat->Int×Bool×(List (Int×Bool))->Option (Int×Bool)
 |0,_=>none
 |f+1,b =>
  nxt b.2.2
   (d b.1 b.2.1)
  <| pck b.2.2 fun h j =>
  reg <| Jm n a0 b h j
   (fun e g c=>reg <| cnd (g)
   (cnd (!(b.2.1))
     ((G5 n a0 d f) (e,true,c))
   <| cnd (decide (e<b.1))
    ((G5 n a0 d f) (e,true,c))
   <| (G5 n a0 d f) (b.1,b.2.1,c))
  <| (G5 n a0 d f) (b.1,b.2.1,c)) n (0,true,0)
noncomputable def T4 (n:Nat)(a0:(List Ab))(a1:(List (Int×Bool))):Option (Int×Bool) :=
 G5 n a0
  (fun b c=>some (b,c)) n (0,false,a1)
noncomputable def Jl (n:Nat)(a0:A8)(x2:Be)(x3:(List (List (Int×Bool))))(c:(List Int)->(List Bool)->Option ((List Int)×(List Bool)×Int)):Nat->Int×(List Int)×(List Bool)->Option ((List Int)×(List Bool)×Int)
 |0,_=>none
 |d+1,b =>
  cnd (decide (b.1<((a0.fStates.map Aj).length:Int)))
   (nat b.1 (b.2.2.map AV.bool).length fun g =>
   stx b.2.2 g (fun s=>true) fun e =>
   reg <| mgv x2.finner b.1 (false:Bool) fun h t =>
   cnd (h)
    (bnd (Pq n a0 b.1) fun j =>
    idx x3 b.1 fun k =>
    bnd (T4 n j.1 k) fun f =>
    nat b.1 (b.2.1.map aI).length fun l =>
    stx b.2.1 l (fun u=>f.1) fun o =>
    nat b.1 (e.map AV.bool).length fun p =>
    stx e p (fun v=>f.2) fun q =>
    (Jl n a0 x2 x3 c d) ((aA .i64 (b.1+1)),o,q))
   <| (Jl n a0 x2 x3 c d) ((aA .i64 (b.1+1)),b.2.1,e))
  <| c b.2.1 b.2.2
noncomputable def F6 (n:Nat)(a0:A8):Option ((List Int)×(List Bool)×Int) :=
 bnd (Bz n a0) fun x1 =>
 cnd (!decide (x1=0))
  (some ([],[],x1))
 <| bnd (G6 n a0) fun x2 =>
 bnd (Iq n x2 a0) fun x3 =>
 mak ((a0.fStates.map Aj).length:Int) 8 (0:Int) fun x4 =>
 mak ((a0.fStates.map Aj).length:Int) 1 (false:Bool) fun x5 =>
 Jl n a0 x2 x3
  (fun b c=>some (b,c,0)) n (0,x4,x5)
noncomputable def Sn (n:Nat)(a1:Int)(x1:(List Int)×(List Bool)×Int)(c:Int->Option (Int×Bool)):Nat->Int×(List (Int×Bool))->Option (Int×Bool)
 |0,_=>none
 |d+1,b =>
  nxt b.2
   (c b.1)
  <| pck b.2 fun e f =>
  reg <| idx x1.2.1 e.1 fun g =>
  cnd (!(g))
   (some (0,false))
  <| idx x1.1 e.1 fun h =>
  (Sn n a1 x1 c d) ((max b.1 (aA .i64 (a1*(aA .i64 (h+1))))),f)
noncomputable def Sy (n:Nat)(a0:A8)(a1:Int):Option (Int×Bool) :=
 bnd (F6 n a0) fun x1 =>
 bnd (G6 n a0) fun x2 =>
 Sn n a1 x1
  (fun b=>some (b,true)) n (0,x2.finner)
structure Av where
 ftypes:(List Br)
 fa:A8
deriving Inhabited
def Pj (n:Nat)(a0:Ak)(m0:B16):Option (Int×B16) :=
 bnd (N5 n a0.fOp) fun x1 =>
 cnd (x1.1)
  (cnd (decide (0<=a0.fVar))
    (cnd (decide (a0.fVar<16))
      (natc a0.fVar 0
        (some (0,(true,m0.2.1,m0.2.2.1,m0.2.2.2.1,m0.2.2.2.2.1,m0.2.2.2.2.2.1,m0.2.2.2.2.2.2.1,m0.2.2.2.2.2.2.2.1,m0.2.2.2.2.2.2.2.2.1,m0.2.2.2.2.2.2.2.2.2.1,m0.2.2.2.2.2.2.2.2.2.2.1,m0.2.2.2.2.2.2.2.2.2.2.2.1,m0.2.2.2.2.2.2.2.2.2.2.2.2.1,m0.2.2.2.2.2.2.2.2.2.2.2.2.2.1,m0.2.2.2.2.2.2.2.2.2.2.2.2.2.2.1,m0.2.2.2.2.2.2.2.2.2.2.2.2.2.2.2)))
      <| natc a0.fVar 1
       (some (0,(m0.1,true,m0.2.2.1,m0.2.2.2.1,m0.2.2.2.2.1,m0.2.2.2.2.2.1,m0.2.2.2.2.2.2.1,m0.2.2.2.2.2.2.2.1,m0.2.2.2.2.2.2.2.2.1,m0.2.2.2.2.2.2.2.2.2.1,m0.2.2.2.2.2.2.2.2.2.2.1,m0.2.2.2.2.2.2.2.2.2.2.2.1,m0.2.2.2.2.2.2.2.2.2.2.2.2.1,m0.2.2.2.2.2.2.2.2.2.2.2.2.2.1,m0.2.2.2.2.2.2.2.2.2.2.2.2.2.2.1,m0.2.2.2.2.2.2.2.2.2.2.2.2.2.2.2)))
      <| natc a0.fVar 2
       (some (0,(m0.1,m0.2.1,true,m0.2.2.2.1,m0.2.2.2.2.1,m0.2.2.2.2.2.1,m0.2.2.2.2.2.2.1,m0.2.2.2.2.2.2.2.1,m0.2.2.2.2.2.2.2.2.1,m0.2.2.2.2.2.2.2.2.2.1,m0.2.2.2.2.2.2.2.2.2.2.1,m0.2.2.2.2.2.2.2.2.2.2.2.1,m0.2.2.2.2.2.2.2.2.2.2.2.2.1,m0.2.2.2.2.2.2.2.2.2.2.2.2.2.1,m0.2.2.2.2.2.2.2.2.2.2.2.2.2.2.1,m0.2.2.2.2.2.2.2.2.2.2.2.2.2.2.2)))
      <| natc a0.fVar 3
       (some (0,(m0.1,m0.2.1,m0.2.2.1,true,m0.2.2.2.2.1,m0.2.2.2.2.2.1,m0.2.2.2.2.2.2.1,m0.2.2.2.2.2.2.2.1,m0.2.2.2.2.2.2.2.2.1,m0.2.2.2.2.2.2.2.2.2.1,m0.2.2.2.2.2.2.2.2.2.2.1,m0.2.2.2.2.2.2.2.2.2.2.2.1,m0.2.2.2.2.2.2.2.2.2.2.2.2.1,m0.2.2.2.2.2.2.2.2.2.2.2.2.2.1,m0.2.2.2.2.2.2.2.2.2.2.2.2.2.2.1,m0.2.2.2.2.2.2.2.2.2.2.2.2.2.2.2)))
      <| natc a0.fVar 4
       (some (0,(m0.1,m0.2.1,m0.2.2.1,m0.2.2.2.1,true,m0.2.2.2.2.2.1,m0.2.2.2.2.2.2.1,m0.2.2.2.2.2.2.2.1,m0.2.2.2.2.2.2.2.2.1,m0.2.2.2.2.2.2.2.2.2.1,m0.2.2.2.2.2.2.2.2.2.2.1,m0.2.2.2.2.2.2.2.2.2.2.2.1,m0.2.2.2.2.2.2.2.2.2.2.2.2.1,m0.2.2.2.2.2.2.2.2.2.2.2.2.2.1,m0.2.2.2.2.2.2.2.2.2.2.2.2.2.2.1,m0.2.2.2.2.2.2.2.2.2.2.2.2.2.2.2)))
      <| natc a0.fVar 5
       (some (0,(m0.1,m0.2.1,m0.2.2.1,m0.2.2.2.1,m0.2.2.2.2.1,true,m0.2.2.2.2.2.2.1,m0.2.2.2.2.2.2.2.1,m0.2.2.2.2.2.2.2.2.1,m0.2.2.2.2.2.2.2.2.2.1,m0.2.2.2.2.2.2.2.2.2.2.1,m0.2.2.2.2.2.2.2.2.2.2.2.1,m0.2.2.2.2.2.2.2.2.2.2.2.2.1,m0.2.2.2.2.2.2.2.2.2.2.2.2.2.1,m0.2.2.2.2.2.2.2.2.2.2.2.2.2.2.1,m0.2.2.2.2.2.2.2.2.2.2.2.2.2.2.2)))
      <| natc a0.fVar 6
       (some (0,(m0.1,m0.2.1,m0.2.2.1,m0.2.2.2.1,m0.2.2.2.2.1,m0.2.2.2.2.2.1,true,m0.2.2.2.2.2.2.2.1,m0.2.2.2.2.2.2.2.2.1,m0.2.2.2.2.2.2.2.2.2.1,m0.2.2.2.2.2.2.2.2.2.2.1,m0.2.2.2.2.2.2.2.2.2.2.2.1,m0.2.2.2.2.2.2.2.2.2.2.2.2.1,m0.2.2.2.2.2.2.2.2.2.2.2.2.2.1,m0.2.2.2.2.2.2.2.2.2.2.2.2.2.2.1,m0.2.2.2.2.2.2.2.2.2.2.2.2.2.2.2)))
      <| natc a0.fVar 7
       (some (0,(m0.1,m0.2.1,m0.2.2.1,m0.2.2.2.1,m0.2.2.2.2.1,m0.2.2.2.2.2.1,m0.2.2.2.2.2.2.1,true,m0.2.2.2.2.2.2.2.2.1,m0.2.2.2.2.2.2.2.2.2.1,m0.2.2.2.2.2.2.2.2.2.2.1,m0.2.2.2.2.2.2.2.2.2.2.2.1,m0.2.2.2.2.2.2.2.2.2.2.2.2.1,m0.2.2.2.2.2.2.2.2.2.2.2.2.2.1,m0.2.2.2.2.2.2.2.2.2.2.2.2.2.2.1,m0.2.2.2.2.2.2.2.2.2.2.2.2.2.2.2)))
      <| natc a0.fVar 8
       (some (0,(m0.1,m0.2.1,m0.2.2.1,m0.2.2.2.1,m0.2.2.2.2.1,m0.2.2.2.2.2.1,m0.2.2.2.2.2.2.1,m0.2.2.2.2.2.2.2.1,true,m0.2.2.2.2.2.2.2.2.2.1,m0.2.2.2.2.2.2.2.2.2.2.1,m0.2.2.2.2.2.2.2.2.2.2.2.1,m0.2.2.2.2.2.2.2.2.2.2.2.2.1,m0.2.2.2.2.2.2.2.2.2.2.2.2.2.1,m0.2.2.2.2.2.2.2.2.2.2.2.2.2.2.1,m0.2.2.2.2.2.2.2.2.2.2.2.2.2.2.2)))
      <| natc a0.fVar 9
       (some (0,(m0.1,m0.2.1,m0.2.2.1,m0.2.2.2.1,m0.2.2.2.2.1,m0.2.2.2.2.2.1,m0.2.2.2.2.2.2.1,m0.2.2.2.2.2.2.2.1,m0.2.2.2.2.2.2.2.2.1,true,m0.2.2.2.2.2.2.2.2.2.2.1,m0.2.2.2.2.2.2.2.2.2.2.2.1,m0.2.2.2.2.2.2.2.2.2.2.2.2.1,m0.2.2.2.2.2.2.2.2.2.2.2.2.2.1,m0.2.2.2.2.2.2.2.2.2.2.2.2.2.2.1,m0.2.2.2.2.2.2.2.2.2.2.2.2.2.2.2)))
      <| natc a0.fVar 10
       (some (0,(m0.1,m0.2.1,m0.2.2.1,m0.2.2.2.1,m0.2.2.2.2.1,m0.2.2.2.2.2.1,m0.2.2.2.2.2.2.1,m0.2.2.2.2.2.2.2.1,m0.2.2.2.2.2.2.2.2.1,m0.2.2.2.2.2.2.2.2.2.1,true,m0.2.2.2.2.2.2.2.2.2.2.2.1,m0.2.2.2.2.2.2.2.2.2.2.2.2.1,m0.2.2.2.2.2.2.2.2.2.2.2.2.2.1,m0.2.2.2.2.2.2.2.2.2.2.2.2.2.2.1,m0.2.2.2.2.2.2.2.2.2.2.2.2.2.2.2)))
      <| natc a0.fVar 11
       (some (0,(m0.1,m0.2.1,m0.2.2.1,m0.2.2.2.1,m0.2.2.2.2.1,m0.2.2.2.2.2.1,m0.2.2.2.2.2.2.1,m0.2.2.2.2.2.2.2.1,m0.2.2.2.2.2.2.2.2.1,m0.2.2.2.2.2.2.2.2.2.1,m0.2.2.2.2.2.2.2.2.2.2.1,true,m0.2.2.2.2.2.2.2.2.2.2.2.2.1,m0.2.2.2.2.2.2.2.2.2.2.2.2.2.1,m0.2.2.2.2.2.2.2.2.2.2.2.2.2.2.1,m0.2.2.2.2.2.2.2.2.2.2.2.2.2.2.2)))
      <| natc a0.fVar 12
       (some (0,(m0.1,m0.2.1,m0.2.2.1,m0.2.2.2.1,m0.2.2.2.2.1,m0.2.2.2.2.2.1,m0.2.2.2.2.2.2.1,m0.2.2.2.2.2.2.2.1,m0.2.2.2.2.2.2.2.2.1,m0.2.2.2.2.2.2.2.2.2.1,m0.2.2.2.2.2.2.2.2.2.2.1,m0.2.2.2.2.2.2.2.2.2.2.2.1,true,m0.2.2.2.2.2.2.2.2.2.2.2.2.2.1,m0.2.2.2.2.2.2.2.2.2.2.2.2.2.2.1,m0.2.2.2.2.2.2.2.2.2.2.2.2.2.2.2)))
      <| natc a0.fVar 13
       (some (0,(m0.1,m0.2.1,m0.2.2.1,m0.2.2.2.1,m0.2.2.2.2.1,m0.2.2.2.2.2.1,m0.2.2.2.2.2.2.1,m0.2.2.2.2.2.2.2.1,m0.2.2.2.2.2.2.2.2.1,m0.2.2.2.2.2.2.2.2.2.1,m0.2.2.2.2.2.2.2.2.2.2.1,m0.2.2.2.2.2.2.2.2.2.2.2.1,m0.2.2.2.2.2.2.2.2.2.2.2.2.1,true,m0.2.2.2.2.2.2.2.2.2.2.2.2.2.2.1,m0.2.2.2.2.2.2.2.2.2.2.2.2.2.2.2)))
      <| natc a0.fVar 14
       (some (0,(m0.1,m0.2.1,m0.2.2.1,m0.2.2.2.1,m0.2.2.2.2.1,m0.2.2.2.2.2.1,m0.2.2.2.2.2.2.1,m0.2.2.2.2.2.2.2.1,m0.2.2.2.2.2.2.2.2.1,m0.2.2.2.2.2.2.2.2.2.1,m0.2.2.2.2.2.2.2.2.2.2.1,m0.2.2.2.2.2.2.2.2.2.2.2.1,m0.2.2.2.2.2.2.2.2.2.2.2.2.1,m0.2.2.2.2.2.2.2.2.2.2.2.2.2.1,true,m0.2.2.2.2.2.2.2.2.2.2.2.2.2.2.2)))
      <| natc a0.fVar 15
       (some (0,(m0.1,m0.2.1,m0.2.2.1,m0.2.2.2.1,m0.2.2.2.2.1,m0.2.2.2.2.2.1,m0.2.2.2.2.2.2.1,m0.2.2.2.2.2.2.2.1,m0.2.2.2.2.2.2.2.2.1,m0.2.2.2.2.2.2.2.2.2.1,m0.2.2.2.2.2.2.2.2.2.2.1,m0.2.2.2.2.2.2.2.2.2.2.2.1,m0.2.2.2.2.2.2.2.2.2.2.2.2.1,m0.2.2.2.2.2.2.2.2.2.2.2.2.2.1,m0.2.2.2.2.2.2.2.2.2.2.2.2.2.2.1,true)))
      <| none)
    <| some (0,m0))
  <| some (0,m0))
 <| some (0,m0)
def M3 (n:Nat)(d:Ak->B16->Option (Int×B16))(a0:Ak)(e:Bool->Bool->Bool->Bool->Bool->Bool->Bool->Bool->Bool->Bool->Bool->Bool->Bool->Bool->Bool->Bool->Option (Int×B16)):Nat->Int×B16->Option (Int×B16)
 |0,_=>none
 |f+1,b =>
  cnd (decide (b.1<((a0.fArgs.map idA).length:Int)))
   (idxD Bs a0.fArgs b.1 fun g =>
   bndM 24 (d g b.2) fun c =>
   cnd (!decide (c.1=0))
    (some (c.1,c.2))
   <| (M3 n d a0 e f) ((aA .i64 (b.1+1)),c.2.1,c.2.2.1,c.2.2.2.1,c.2.2.2.2.1,c.2.2.2.2.2.1,c.2.2.2.2.2.2.1,c.2.2.2.2.2.2.2.1,c.2.2.2.2.2.2.2.2.1,c.2.2.2.2.2.2.2.2.2.1,c.2.2.2.2.2.2.2.2.2.2.1,c.2.2.2.2.2.2.2.2.2.2.2.1,c.2.2.2.2.2.2.2.2.2.2.2.2.1,c.2.2.2.2.2.2.2.2.2.2.2.2.2.1,c.2.2.2.2.2.2.2.2.2.2.2.2.2.2.1,c.2.2.2.2.2.2.2.2.2.2.2.2.2.2.2.1,c.2.2.2.2.2.2.2.2.2.2.2.2.2.2.2.2))
  <| e b.2.1 b.2.2.1 b.2.2.2.1 b.2.2.2.2.1 b.2.2.2.2.2.1 b.2.2.2.2.2.2.1 b.2.2.2.2.2.2.2.1 b.2.2.2.2.2.2.2.2.1 b.2.2.2.2.2.2.2.2.2.1 b.2.2.2.2.2.2.2.2.2.2.1 b.2.2.2.2.2.2.2.2.2.2.2.1 b.2.2.2.2.2.2.2.2.2.2.2.2.1 b.2.2.2.2.2.2.2.2.2.2.2.2.2.1 b.2.2.2.2.2.2.2.2.2.2.2.2.2.2.1 b.2.2.2.2.2.2.2.2.2.2.2.2.2.2.2.1 b.2.2.2.2.2.2.2.2.2.2.2.2.2.2.2.2
def Hi:Nat->Ak->B16->Option (Int×B16)
 |0,_,_=>none
 |n+1,a0,m0 =>
 bndM 11 (Pj n a0 m0) fun x1 =>
 cnd (!decide (x1.1=0))
  (some (x1.1,x1.2))
 <| M3 n (Hi n) a0
  (fun h j k l o p q s t u b c d e f g=>some (0,(h,j,k,l,o,p,q,s,t,u,b,c,d,e,f,g))) n (0,x1.2.1,x1.2.2.1,x1.2.2.2.1,x1.2.2.2.2.1,x1.2.2.2.2.2.1,x1.2.2.2.2.2.2.1,x1.2.2.2.2.2.2.2.1,x1.2.2.2.2.2.2.2.2.1,x1.2.2.2.2.2.2.2.2.2.1,x1.2.2.2.2.2.2.2.2.2.2.1,x1.2.2.2.2.2.2.2.2.2.2.2.1,x1.2.2.2.2.2.2.2.2.2.2.2.2.1,x1.2.2.2.2.2.2.2.2.2.2.2.2.2.1,x1.2.2.2.2.2.2.2.2.2.2.2.2.2.2.1,x1.2.2.2.2.2.2.2.2.2.2.2.2.2.2.2.1,x1.2.2.2.2.2.2.2.2.2.2.2.2.2.2.2.2)
def B7 (n:Nat)(x1:Int×B16)(c:(List Int)->Option ((List Int))):Nat->Int×(List Int)->Option ((List Int))
 |0,_=>none
 |d+1,b =>
  cnd (decide (b.1<16))
   (natc b.1 0
     (reg <| cnd (x1.2.1)
     (app b.2 [b.1] 8 fun e =>
     (B7 n x1 c d) ((aA .i64 (b.1+1)),e))
   <| (B7 n x1 c d) ((aA .i64 (b.1+1)),b.2))
   <| natc b.1 1
    (reg <| cnd (x1.2.2.1)
    (app b.2 [b.1] 8 fun f =>
    (B7 n x1 c d) ((aA .i64 (b.1+1)),f))
   <| (B7 n x1 c d) ((aA .i64 (b.1+1)),b.2))
   <| natc b.1 2
    (reg <| cnd (x1.2.2.2.1)
    (app b.2 [b.1] 8 fun g =>
    (B7 n x1 c d) ((aA .i64 (b.1+1)),g))
   <| (B7 n x1 c d) ((aA .i64 (b.1+1)),b.2))
   <| natc b.1 3
    (reg <| cnd (x1.2.2.2.2.1)
    (app b.2 [b.1] 8 fun h =>
    (B7 n x1 c d) ((aA .i64 (b.1+1)),h))
   <| (B7 n x1 c d) ((aA .i64 (b.1+1)),b.2))
   <| natc b.1 4
    (reg <| cnd (x1.2.2.2.2.2.1)
    (app b.2 [b.1] 8 fun j =>
    (B7 n x1 c d) ((aA .i64 (b.1+1)),j))
   <| (B7 n x1 c d) ((aA .i64 (b.1+1)),b.2))
   <| natc b.1 5
    (reg <| cnd (x1.2.2.2.2.2.2.1)
    (app b.2 [b.1] 8 fun k =>
    (B7 n x1 c d) ((aA .i64 (b.1+1)),k))
   <| (B7 n x1 c d) ((aA .i64 (b.1+1)),b.2))
   <| natc b.1 6
    (reg <| cnd (x1.2.2.2.2.2.2.2.1)
    (app b.2 [b.1] 8 fun l =>
    (B7 n x1 c d) ((aA .i64 (b.1+1)),l))
   <| (B7 n x1 c d) ((aA .i64 (b.1+1)),b.2))
   <| natc b.1 7
    (reg <| cnd (x1.2.2.2.2.2.2.2.2.1)
    (app b.2 [b.1] 8 fun o =>
    (B7 n x1 c d) ((aA .i64 (b.1+1)),o))
   <| (B7 n x1 c d) ((aA .i64 (b.1+1)),b.2))
   <| natc b.1 8
    (reg <| cnd (x1.2.2.2.2.2.2.2.2.2.1)
    (app b.2 [b.1] 8 fun p =>
    (B7 n x1 c d) ((aA .i64 (b.1+1)),p))
   <| (B7 n x1 c d) ((aA .i64 (b.1+1)),b.2))
   <| natc b.1 9
    (reg <| cnd (x1.2.2.2.2.2.2.2.2.2.2.1)
    (app b.2 [b.1] 8 fun q =>
    (B7 n x1 c d) ((aA .i64 (b.1+1)),q))
   <| (B7 n x1 c d) ((aA .i64 (b.1+1)),b.2))
   <| natc b.1 10
    (reg <| cnd (x1.2.2.2.2.2.2.2.2.2.2.2.1)
    (app b.2 [b.1] 8 fun s =>
    (B7 n x1 c d) ((aA .i64 (b.1+1)),s))
   <| (B7 n x1 c d) ((aA .i64 (b.1+1)),b.2))
   <| natc b.1 11
    (reg <| cnd (x1.2.2.2.2.2.2.2.2.2.2.2.2.1)
    (app b.2 [b.1] 8 fun t =>
    (B7 n x1 c d) ((aA .i64 (b.1+1)),t))
   <| (B7 n x1 c d) ((aA .i64 (b.1+1)),b.2))
   <| natc b.1 12
    (reg <| cnd (x1.2.2.2.2.2.2.2.2.2.2.2.2.2.1)
    (app b.2 [b.1] 8 fun u =>
    (B7 n x1 c d) ((aA .i64 (b.1+1)),u))
   <| (B7 n x1 c d) ((aA .i64 (b.1+1)),b.2))
   <| natc b.1 13
    (reg <| cnd (x1.2.2.2.2.2.2.2.2.2.2.2.2.2.2.1)
    (app b.2 [b.1] 8 fun v =>
    (B7 n x1 c d) ((aA .i64 (b.1+1)),v))
   <| (B7 n x1 c d) ((aA .i64 (b.1+1)),b.2))
   <| natc b.1 14
    (reg <| cnd (x1.2.2.2.2.2.2.2.2.2.2.2.2.2.2.2.1)
    (app b.2 [b.1] 8 fun w =>
    (B7 n x1 c d) ((aA .i64 (b.1+1)),w))
   <| (B7 n x1 c d) ((aA .i64 (b.1+1)),b.2))
   <| natc b.1 15
    (reg <| cnd (x1.2.2.2.2.2.2.2.2.2.2.2.2.2.2.2.2)
    (app b.2 [b.1] 8 fun y =>
    (B7 n x1 c d) ((aA .i64 (b.1+1)),y))
   <| (B7 n x1 c d) ((aA .i64 (b.1+1)),b.2))
   <| none)
  <| c b.2
def Pu (n:Nat)(a0:Ak):Option ((List Int)) :=
 bndM 9 (Hi n a0 (false,false,false,false,false,false,false,false,false,false,false,false,false,false,false,false)) fun x1 =>
 B7 n x1
  (fun b=>some b) n (0,[])
def Hz (n:Nat)(a1:Int)(a0f2:Aw)(a0f1:Int)(a0f0:Bf)(b:Bool):Option ((List Aw)) :=
 cnd (b)
  (some [])
 <| idx a0f0.fVars a1 fun x2 =>
 some x2
def Lc (n:Nat)(a0f0:Bf)(a0f1:Int)(a0f2:Aw)(a1:Int):Option ((List Aw)) :=
 jon (Hz n a1 a0f2 a0f1 a0f0) <|
 reg <| cnd (decide (a1<0))
  (Hz n a1 a0f2 a0f1 a0f0 true)
 <| Hz n a1 a0f2 a0f1 a0f0 (decide ((((List.map (fun q=>AV.sl 5 (List.map Ar q)) (a0f0.fVars)).length:Nat):Int)<=a1))
def Ju (n:Nat)(a0:Aw)(a1:Int):Option (A5×Int) :=
 cnd (decide (((a0.fValues.map Aa).length:Int)<=a1))
  (some (⟨0,0,ByteArray.empty⟩,6))
 <| idx a0.fValues a1 fun x1 =>
 some (x1,0)
def Ks (n:Nat)(a1:Ak)(x1:(List Aw))(c:(List A5)->Option (A5×Int)):Nat->Int×(List A5)->Option (A5×Int)
 |0,_=>none
 |e+1,b =>
  cnd (decide (b.1<((x1.map Ar).length:Int)))
   (idx x1 b.1 fun f =>
   bnd (Ju n f a1.fField) fun d =>
   cnd (!decide (d.2=0))
    (some (⟨0,0,ByteArray.empty⟩,d.2))
   <| app b.2 [d.1] 32 fun g =>
   (Ks n a1 x1 c e) ((aA .i64 (b.1+1)),g))
  <| c b.2
def Rk (n:Nat)(a0f0:Bf)(a0f1:Int)(a0f2:Aw)(a1:Ak):Option (A5×Int) :=
 bnd (Lc n (⟨a0f0.fVars⟩:Bf) a0f1 a0f2 a1.fVar) fun x1 =>
 Ks n a1 x1
  (fun b=>bnd (N3 n a1.fKind b a1.fValue) fun c =>
 some (c.1,c.2)) n (0,[])
def I8 (n:Nat)(x9:A5×Int)(b:Int):Option (A5×Int) :=
 cnd (!decide (b=0))
  (some (⟨0,0,ByteArray.empty⟩,b))
 <| some (x9.1,0)
def I9 (n:Nat)(a1:Ak)(b:Int×Int×Int×Int×(List A5)):Option (A5×Int) :=
 cnd (decide (a1.fOp=2))
  (some (⟨0,b.2.2.2.1,ByteArray.empty⟩,0))
 <| bnd (Ju n (⟨b.1,b.2.1,b.2.2.1,b.2.2.2.1,b.2.2.2.2⟩:Aw) a1.fField) fun x9 =>
 jon (I8 n x9) <|
 reg <| cnd (decide (x9.2=0))
  (bnd (F5 n x9.1) fun c =>
  I8 n x9 c)
 <| I8 n x9 x9.2
def Lt (n:Nat)(a0f0:Bf)(a0f1:Int)(a0f2:Aw)(a1:Ak):Option (A5×Int) :=
 bnd (Lc n (⟨a0f0.fVars⟩:Bf) a0f1 a0f2 a1.fVar) fun x1 =>
 cnd (decide (a1.fOp=0))
  (some (a1.fValue,0))
 <| cnd (decide (a1.fOp=3))
  (some (⟨0,((x1.map Ar).length:Int),ByteArray.empty⟩,0))
 <| cnd (decide (a1.fOp=4))
  (bnd (Rk n (⟨a0f0.fVars⟩:Bf) a0f1 a0f2 a1) fun x2 =>
  some (x2.1,x2.2))
 <| jon (I9 n a1) <|
 reg <| cnd (!decide (a1.fVar=a0f1))
  (cnd (decide (((x1.map Ar).length:Int)=0))
    (some (⟨0,0,ByteArray.empty⟩,10))
  <| idx x1 (aA .i64 (((x1.map Ar).length:Int)-1)) fun b =>
  I9 n a1 (b.fSource,b.fSeq,b.fType,b.fTime,b.fValues))
 <| I9 n a1 (a0f2.fSource,a0f2.fSeq,a0f2.fType,a0f2.fTime,a0f2.fValues)
def He (n:Nat)(a1:(List Int))(a0:Int)(c:Int)(b:Int->Option (Int))(d:Int)(e:Bool):Option (Int) :=
 cnd (e)
  (cnd (!(decide (d=1)))
    (some 9)
  <| b (aA .i64 (c+1)))
 <| reg <| cnd (decide (a0=9))
  (idx a1 0 fun f =>
  cnd (!(decide (d=f)))
   (some 9)
  <| b (aA .i64 (c+1)))
 <| b (aA .i64 (c+1))
def G2 (n:Nat)(a1:(List Int))(a0:Int)(c:Int)(b:Int->Option (Int))(d:Int)(e:Bool):Option (Int) :=
 cnd (e)
  (cnd (!(decide (d=0)))
    (some 9)
  <| b (aA .i64 (c+1)))
 <| jon (He n a1 a0 c b d) <|
 reg <| cnd (decide (a0=10))
  (He n a1 a0 c b d (decide (a0=10)))
 <| reg <| cnd (decide (a0=11))
  (He n a1 a0 c b d (decide (a0=11)))
 <| He n a1 a0 c b d (decide (a0=12))
def F0 (n:Nat)(a1:(List Int))(a0:Int)(b:Option (Int)):Nat->Int->Option (Int)
 |0,_=>none
 |d+1,c =>
  cnd (decide (c<((a1.map aI).length:Int)))
   (idx a1 c fun e =>
   jon (G2 n a1 a0 c (F0 n a1 a0 b d) e) <|
   reg <| cnd (decide (a0=5))
    (G2 n a1 a0 c (F0 n a1 a0 b d) e (decide (a0=5)))
   <| reg <| cnd (decide (a0=6))
    (G2 n a1 a0 c (F0 n a1 a0 b d) e (decide (a0=6)))
   <| reg <| cnd (decide (a0=7))
    (G2 n a1 a0 c (F0 n a1 a0 b d) e (decide (a0=7)))
   <| G2 n a1 a0 c (F0 n a1 a0 b d) e (decide (a0=8)))
  <| b
def Su (n:Nat)(a0:Int)(a1:(List Int)):Option (Int) :=
 F0 n a1 a0
  (some 0) n 0
def T3 (n:Nat)(a0:Bool):Option (A5) :=
 cnd (a0)
  (some (⟨1,1,ByteArray.empty⟩))
 <| some (⟨1,0,ByteArray.empty⟩)
def D7 (n:Nat)(a0:Bool):Option (A5) :=
 bnd (T3 n a0) fun x1 =>
 some x1
def Pc (n:Nat)(a0:Int):Option (A5) :=
 some (⟨0,a0,ByteArray.empty⟩)
def Pb (n:Nat)(a0:Int)(a1:Int):Option (A5) :=
 bnd (Pc n (aA .i64 (a0+a1))) fun x1 =>
 some x1
def Pa (n:Nat)(a0:Int)(a1:Int):Option (A5) :=
 bnd (Pc n (aA .i64 (a0-a1))) fun x1 =>
 some x1
def P9 (n:Nat)(a0:Int)(a1:Int):Option (A5) :=
 bnd (D7 n (decide (a0<a1))) fun x1 =>
 some x1
def P8 (n:Nat)(a0:Int)(a1:Int):Option (A5) :=
 bnd (D7 n (decide (a0<=a1))) fun x1 =>
 some x1
def Iz (n:Nat)(b:Int×Int×ByteArray):Option (A5) :=
 some (⟨b.1,b.2.1,b.2.2⟩)
def P7 (n:Nat)(a0:Int)(a1:Int):Option (A5) :=
 jon (Iz n) <|
 reg <| cnd (decide (a0=1))
  (bnd (D7 n (decide (a1=1))) fun x6 =>
  Iz n (x6.fKind,x6.fNum,x6.fText))
 <| bnd (D7 n false) fun x7 =>
 Iz n (x7.fKind,x7.fNum,x7.fText)
def Iy (n:Nat)(b:Int×Int×ByteArray):Option (A5) :=
 some (⟨b.1,b.2.1,b.2.2⟩)
def P6 (n:Nat)(a0:Int)(a1:Int):Option (A5) :=
 jon (Iy n) <|
 reg <| cnd (decide (a0=1))
  (bnd (D7 n true) fun x6 =>
  Iy n (x6.fKind,x6.fNum,x6.fText))
 <| bnd (D7 n (decide (a1=1))) fun x7 =>
 Iy n (x7.fKind,x7.fNum,x7.fText)
def Jc (n:Nat)(a0:Int)(a1:Int):Option (A5) :=
 bnd (D7 n (!decide (a0=1))) fun x1 =>
 some x1
def L3 (n:Nat)(b:Bf->Int->Aw->Ak->Option (A5×Int))(a1:Ak)(a0f2:Aw)(a0f1:Int)(a0f0:Bf)(d:(List A5)->(List Int)->Option (A5×Int)):Nat->Int×(List A5)×(List Int)->Option (A5×Int)
 |0,_=>none
 |f+1,c =>
  cnd (decide (c.1<((a1.fArgs.map idA).length:Int)))
   (idxD Bs a1.fArgs c.1 fun g =>
   bnd (b (⟨a0f0.fVars⟩:Bf) a0f1 a0f2 g) fun e =>
   cnd (!decide (e.2=0))
    (some (⟨0,0,ByteArray.empty⟩,e.2))
   <| app c.2.1 [e.1] 32 fun h =>
   app c.2.2 [e.1.fKind] 8 fun j =>
   (L3 n b a1 a0f2 a0f1 a0f0 d f) ((aA .i64 (c.1+1)),h,j))
  <| d c.2.1 c.2.2
def Fm:Nat->Bf->Int->Aw->Ak->Option (A5×Int)
 |0,_,_,_,_=>none
 |n+1,a0f0,a0f1,a0f2,a1 =>
 cnd (decide (((a1.fArgs.map idA).length:Int)=0))
  (bnd (Lt n (⟨a0f0.fVars⟩:Bf) a0f1 a0f2 a1) fun x1 =>
  some (x1.1,x1.2))
 <| L3 n (Fm n) a1 a0f2 a0f1 a0f0
  (fun b c=>bnd (Su n a1.fOp c) fun f =>
 cnd (!decide (f=0))
  (some (⟨0,0,ByteArray.empty⟩,f))
 <| cnd (decide (a1.fOp=9))
  (nat 0 (b.map Aa).length fun z =>
  elt b z fun d =>
  nat 1 (b.map Aa).length fun ba =>
  elt b ba fun e =>
  bnd (D7 n (decide (d.fKind=e.fKind) && (decide (d.fNum=e.fNum) && ((d.fText.toList == e.fText.toList) && true)))) fun bb =>
  some (bb,0))
 <| natc a1.fOp 5
  (nat 0 (b.map Aa).length fun g =>
 ltx g (b.map Aa).length <| elt b g fun bc =>
 nat (aA .i64 (((b.map Aa).length:Int)-1)) (b.map Aa).length fun h =>
 ltx h (b.map Aa).length <| elt b h fun bd =>
 bnd (Pb n bc.fNum bd.fNum) fun be =>
 some (be,0))
 <| natc a1.fOp 6
  (nat 0 (b.map Aa).length fun j =>
 ltx j (b.map Aa).length <| elt b j fun bf =>
 nat (aA .i64 (((b.map Aa).length:Int)-1)) (b.map Aa).length fun k =>
 ltx k (b.map Aa).length <| elt b k fun bg =>
 bnd (Pa n bf.fNum bg.fNum) fun bh =>
 some (bh,0))
 <| natc a1.fOp 7
  (nat 0 (b.map Aa).length fun l =>
 ltx l (b.map Aa).length <| elt b l fun bi =>
 nat (aA .i64 (((b.map Aa).length:Int)-1)) (b.map Aa).length fun o =>
 ltx o (b.map Aa).length <| elt b o fun bj =>
 bnd (P9 n bi.fNum bj.fNum) fun bk =>
 some (bk,0))
 <| natc a1.fOp 8
  (nat 0 (b.map Aa).length fun p =>
 ltx p (b.map Aa).length <| elt b p fun bl =>
 nat (aA .i64 (((b.map Aa).length:Int)-1)) (b.map Aa).length fun q =>
 ltx q (b.map Aa).length <| elt b q fun bm =>
 bnd (P8 n bl.fNum bm.fNum) fun bn =>
 some (bn,0))
 <| natc a1.fOp 10
  (nat 0 (b.map Aa).length fun s =>
 ltx s (b.map Aa).length <| elt b s fun bo =>
 nat (aA .i64 (((b.map Aa).length:Int)-1)) (b.map Aa).length fun t =>
 ltx t (b.map Aa).length <| elt b t fun bp =>
 bnd (P7 n bo.fNum bp.fNum) fun bq =>
 some (bq,0))
 <| natc a1.fOp 11
  (nat 0 (b.map Aa).length fun u =>
 ltx u (b.map Aa).length <| elt b u fun br =>
 nat (aA .i64 (((b.map Aa).length:Int)-1)) (b.map Aa).length fun v =>
 ltx v (b.map Aa).length <| elt b v fun bs =>
 bnd (P6 n br.fNum bs.fNum) fun bt =>
 some (bt,0))
 <| natc a1.fOp 12
  (nat 0 (b.map Aa).length fun w =>
 ltx w (b.map Aa).length <| elt b w fun bu =>
 nat (aA .i64 (((b.map Aa).length:Int)-1)) (b.map Aa).length fun y =>
 ltx y (b.map Aa).length <| elt b y fun bv =>
 bnd (Jc n bu.fNum bv.fNum) fun bw =>
 some (bw,0))
 <| none) n (0,[],[])
def T8 (n:Nat)(a0:Ak)(a1:Bf)(a2:Int)(a3:Aw):Option (A5×Int) :=
 bnd (G8 n a0) fun x1 =>
 cnd (!decide (x1=0))
  (some (⟨0,0,ByteArray.empty⟩,x1))
 <| bnd (Fm n (⟨a1.fVars⟩:Bf) a2 a3 a0) fun x2 =>
 some (x2.1,x2.2)
def Jo (n:Nat)(b:Bool):Option (Bool) :=
 some b
def Q3 (n:Nat)(a0:Ak)(a1:Bf)(a2:Int)(a3:Aw):Option (Bool) :=
 bnd (T8 n a0 (⟨a1.fVars⟩:Bf) a2 a3) fun x1 =>
 jon (Jo n) <|
 reg <| cnd (decide (x1.2=0))
  (bnd (D7 n true) fun x4 =>
  Jo n (decide (x1.1.fKind=x4.fKind) && (decide (x1.1.fNum=x4.fNum) && ((x1.1.fText.toList == x4.fText.toList) && true))))
 <| Jo n false
def J8 (n:Nat)(b:Bool):Option (Bool) :=
 some b
def Mo (n:Nat)(a0:Ak):Option (Bool) :=
 jon (J8 n) <|
 reg <| bnd (Pu n a0) fun x4 =>
 cnd (decide (((x4.map aI).length:Int)=0))
  (bnd (Q3 n a0 (⟨[]⟩:Bf) (-1) (⟨0,0,0,0,[]⟩:Aw)) fun x5 =>
  J8 n x5)
 <| J8 n false
def I7 (n:Nat)(b:Bool):Option (Bool) :=
 some b
def Oo (n:Nat)(a0:B5)(a1:Ab):Option (Bool) :=
 jon (I7 n) <|
 reg <| cnd (decide (a0.fType=a1.fType))
  (bnd (Eb n a1.fInside a0.fScope) fun x3 =>
  I7 n !(x3))
 <| I7 n false
def Kp (n:Nat)(d:Ab)(a0:(List B5))(c:Option (Int)):Nat->Int->Option (Int)
 |0,_=>none
 |e+1,b =>
  cnd (decide (b<((a0.map B0).length:Int)))
   (idx a0 b fun f =>
   bnd (Oo n f d) fun g =>
   cnd (g)
    (some b)
   <| (Kp n d a0 c e) (aA .i64 (b+1)))
  <| c
def Rh (n:Nat)(a0:(List B5))(b:Ab):Option (Int) :=
 Kp n b a0
  (some (-1)) n 0
def O1 (n:Nat)(a0:(List B5))(b:Ab):Option (Bool) :=
 bnd (Rh n a0 b) fun x1 =>
 some (decide (0<=x1))
def Lj (n:Nat)(a1:Ab)(a0:Av)(b:Option (Bool)):Nat->Int->Option (Bool)
 |0,_=>none
 |d+1,c =>
  cnd (decide (c<((a1.fLimits.map Bj).length:Int)))
   (idx a1.fLimits c fun e =>
   bnd (Eb n a1.fOpens e.fScope) fun f =>
   cnd (!(f))
    (some false)
   <| (Lj n a1 a0 b d) (aA .i64 (c+1)))
  <| b
def Lk (n:Nat)(a1:Ab)(a0:Av)(b:Option (Bool)):Nat->Int->Option (Bool)
 |0,_=>none
 |d+1,c =>
  cnd (decide (c<((a1.fChecks.map idA).length:Int)))
   (idxD Bs a1.fChecks c fun e =>
   bnd (Mo n e) fun f =>
   cnd (!(f))
    (some false)
   <| (Lk n a1 a0 b d) (aA .i64 (c+1)))
  <| b
def Gy (n:Nat)(a1:Ab)(a0:Av)(b:Bool):Option (Bool) :=
 cnd (b)
  (some false)
 <| Lk n a1 a0
  (Lj n a1 a0
  (idx a0.fa.fStates a1.fFrom fun c =>
 bnd (O1 n c.fGuards a1) fun d =>
 some !(d)) n 0) n 0
def Fu (n:Nat)(a0:Av)(a1:Ab):Option (Bool) :=
 jon (Gy n a1 a0) <|
 reg <| cnd (decide (((a0.ftypes.map Ay).length:Int)<=a1.fType))
  (Gy n a1 a0 true)
 <| bnd (Mo n a1.fCond) fun b =>
 Gy n a1 a0 !(b)
def Vf (n:Nat)(a0:Ab):Option (Bool) :=
 some true
def Lb (n:Nat)(a0:Av)(c:(List Ab)->Option ((List Ab))):Nat->Int×(List Ab)->Option ((List Ab))
 |0,_=>none
 |d+1,b =>
  cnd (decide (b.1<((a0.fa.fEdges.map A7).length:Int)))
   (idx a0.fa.fEdges b.1 fun e =>
   reg <| bnd (Fu n a0 e) fun f =>
   cnd (f)
    (bnd (Vf n e) fun g =>
    cnd (g)
     (app b.2 [e] 240 fun h =>
     (Lb n a0 c d) ((aA .i64 (b.1+1)),h))
    <| (Lb n a0 c d) ((aA .i64 (b.1+1)),b.2))
   <| (Lb n a0 c d) ((aA .i64 (b.1+1)),b.2))
  <| c b.2
def Vn (n:Nat)(a0:Av):Option ((List Ab)) :=
 Lb n a0
  (fun b=>some b) n (0,[])
def Li (n:Nat)(d:(List Ab)×Bool×(List (Int×Bool)))(c:Bool->(List (Int×Bool))->Option ((List (Int×Bool)))):Nat->Bool×Int×(List (Int×Bool))->Option ((List (Int×Bool)))
 |0,_=>none
 |e+1,b =>
  cnd (decide (b.2.1<((d.1.map A7).length:Int)))
   (idx d.1 b.2.1 fun f =>
   reg <| mgt b.2.2 f.fTo (false:Bool) fun g k =>
   cnd (g)
    (mgt b.2.2 f.fFrom (false:Bool) fun h l =>
    cnd (!(h))
     (mst b.2.2 f.fFrom true fun j =>
     (Li n d c e) (true,(aA .i64 (b.2.1+1)),j))
    <| (Li n d c e) (b.1,(aA .i64 (b.2.1+1)),b.2.2))
   <| (Li n d c e) (b.1,(aA .i64 (b.2.1+1)),b.2.2))
  <| c b.1 b.2.2
def Ri (n:Nat)(c:(List (Int×Bool))->Option ((List (Int×Bool)))):Nat->(List Ab)×Bool×(List (Int×Bool))->Option ((List (Int×Bool)))
 |0,_=>none
 |f+1,b =>
  cnd (b.2.1)
   (Li n b
     (fun d e=>(Ri n c f) (b.1,d,e)) n (false,0,b.2.2))
  <| c b.2.2
def Sd (n:Nat)(a0:Av):Option ((List (Int×Bool))) :=
 bnd (Vn n a0) fun x1 =>
 mst [] (-1) true fun x2 =>
 Ri n
  (fun b=>mde b (-1) fun c =>
 some c) n (x1,true,x2)
def V1 (n:Nat)(a0:B5)(a1:Int):Option (Bool) :=
 some (decide (a0.fType=a1))
def R2 (n:Nat)(d:Int)(a0:(List B5))(c:Option (Int)):Nat->Int->Option (Int)
 |0,_=>none
 |e+1,b =>
  cnd (decide (b<((a0.map B0).length:Int)))
   (idx a0 b fun f =>
   bnd (V1 n f d) fun g =>
   cnd (g)
    (some b)
   <| (R2 n d a0 c e) (aA .i64 (b+1)))
  <| c
def V7 (n:Nat)(a0:(List B5))(b:Int):Option (Int) :=
 R2 n b a0
  (some (-1)) n 0
def Uy (n:Nat)(a0:(List B5))(b:Int):Option (Bool) :=
 bnd (V7 n a0 b) fun x1 =>
 some (decide (0<=x1))
def Og (n:Nat)(a0:Av)(a1:Int)(a2:Int):Option (Bool) :=
 idx a0.fa.fStates a1 fun x1 =>
 bnd (Uy n x1.fGuards a2) fun x2 =>
 some x2
def Ve (n:Nat)(a0:Ab)(m0:Av)(m1:Int):Option (Bool×Av×Int) :=
 cnd (decide (0<=a0.fTo))
  (bnd (Og n m0 0 a0.fType) fun x1 =>
  cnd (!(x1))
   (bnd (Og n m0 m1 a0.fType) fun x2 =>
   some (!(x2),m0,m1))
  <| some (false,m0,m1))
 <| some (false,m0,m1)
def Kl (n:Nat)(a0:Av)(d:(List Br)->Int->Int->(List Dw)->(List Ab)->Int->(List Ab)->Option ((List Ab)×Av×Int)):Nat->Int×(List Br)×Int×Int×(List Dw)×(List Ab)×Int×(List Ab)->Option ((List Ab)×Av×Int)
 |0,_=>none
 |e+1,b =>
  cnd (decide (b.1<((a0.fa.fEdges.map A7).length:Int)))
   (idx a0.fa.fEdges b.1 fun f =>
   bnd (Fu n a0 f) fun g =>
   cnd (g)
    (bndM 22 (Ve n f (⟨b.2.1,⟨b.2.2.1,b.2.2.2.1,b.2.2.2.2.1,b.2.2.2.2.2.1⟩⟩:Av) b.2.2.2.2.2.2.1) fun c =>
    cnd (c.1)
     (app b.2.2.2.2.2.2.2 [f] 240 fun h =>
     (Kl n a0 d e) ((aA .i64 (b.1+1)),c.2.1.ftypes,c.2.1.fa.fVars,c.2.1.fa.fScopes,c.2.1.fa.fStates,c.2.1.fa.fEdges,c.2.2,h))
    <| (Kl n a0 d e) ((aA .i64 (b.1+1)),c.2.1.ftypes,c.2.1.fa.fVars,c.2.1.fa.fScopes,c.2.1.fa.fStates,c.2.1.fa.fEdges,c.2.2,b.2.2.2.2.2.2.2))
   <| (Kl n a0 d e) ((aA .i64 (b.1+1)),b.2.1,b.2.2.1,b.2.2.2.1,b.2.2.2.2.1,b.2.2.2.2.2.1,b.2.2.2.2.2.2.1,b.2.2.2.2.2.2.2))
  <| d b.2.1 b.2.2.1 b.2.2.2.1 b.2.2.2.2.1 b.2.2.2.2.2.1 b.2.2.2.2.2.2.1 b.2.2.2.2.2.2.2
def V0 (n:Nat)(a0:Av)(m0:Av)(m1:Int):Option ((List Ab)×Av×Int) :=
 Kl n a0
  (fun b c d e f g h=>frz 7027 <| reg <| some (h,⟨b,⟨c,d,e,f⟩⟩,g)) n (0,m0.ftypes,m0.fa.fVars,m0.fa.fScopes,m0.fa.fStates,m0.fa.fEdges,m1,[])
def L0 (n:Nat)(b:Int->(List Ab)->(List (Int×Bool))->Int->Option ((List Int)×(List Ab)×(List (Int×Bool))×Int))(m0:(List Ab))(a0:Int)(d:(List Ab)->Int->(List (Int×Bool))->Option ((List Int)×(List Ab)×(List (Int×Bool))×Int)):Nat->Int×(List Ab)×Int×(List (Int×Bool))->Option ((List Int)×(List Ab)×(List (Int×Bool))×Int)
 |0,_=>none
 |g+1,c =>
  cnd (decide (c.1<((m0.map A7).length:Int)))
   (idx m0 c.1 fun f =>
   cnd (!decide (f.fFrom=a0))
    ((L0 n b m0 a0 d g) ((aA .i64 (c.1+1)),c.2.1,c.2.2.1,c.2.2.2))
   <| mgt c.2.2.2 f.fTo (false:Bool) fun k p =>
   cnd (k)
    ((L0 n b m0 a0 d g) ((aA .i64 (c.1+1)),c.2.1,c.2.2.1,c.2.2.2))
   <| cnd (decide (f.fTo=c.2.2.1))
    (bld ([f.fType]:List Int) fun h =>
    nlz h <| some (h,c.2.1,c.2.2.2,c.2.2.1))
   <| mst c.2.2.2 f.fTo true fun l =>
   bndM 39 (b f.fTo c.2.1 l c.2.2.1) fun e =>
   cnd (!(e.1.map aI).isEmpty)
    (nlw 9 <| reg <| bld ([f.fType]:List Int) fun o =>
    app o e.1 8 fun j =>
    nlz j <| some (j,e.2.1,e.2.2.1,e.2.2.2))
   <| (L0 n b m0 a0 d g) ((aA .i64 (c.1+1)),e.2.1,e.2.2.2,e.2.2.1))
  <| d c.2.1 c.2.2.1 c.2.2.2
def Rq:Nat->Int->(List Ab)->(List (Int×Bool))->Int->Option ((List Int)×(List Ab)×(List (Int×Bool))×Int)
 |0,_,_,_,_=>none
 |n+1,a0,m0,m1,m2 =>
 L0 n (Rq n) m0 a0
  (fun b c d=>some ([],b,d,c)) n (0,m0,m2,m1)
def Sc (n:Nat)(a0:Av)(a1:Int):Option ((List Int)) :=
 bndM 10 (V0 n a0 a0 a1) fun x1 =>
 bndM 14 (Rq n 0 x1.1 [] x1.2.2) fun x2 =>
 some x2.1
def R5 (n:Nat)(a1:(List Int))(a0:Av)(g:Int×(List Aw))(f:Int)(d:Br)(c:Int->(List A5)->Option ((List Aw))):Nat->Int×(List A5)->Option ((List Aw))
 |0,_=>none
 |e+1,b =>
  cnd (decide (b.1<((d.fFields.map Dh).length:Int)))
   (idx d.fFields b.1 fun h =>
   app b.2 ([⟨h.fKind,0,ByteArray.empty⟩]) 32 fun j =>
   (R5 n a1 a0 g f d c e) ((aA .i64 (b.1+1)),j))
  <| c f b.2
def R6 (n:Nat)(a1:(List Int))(a0:Av)(c:(List Aw)->Option ((List Aw))):Nat->Int×(List Aw)->Option ((List Aw))
 |0,_=>none
 |f+1,b =>
  cnd (decide (b.1<((a1.map aI).length:Int)))
   (idx a1 b.1 fun g =>
   idx a0.ftypes g fun h =>
   R5 n a1 a0 b g h
    (fun d e=>frz 7039 <| reg <| app b.2 ([⟨0,b.1,d,b.1,e⟩]) 56 fun j =>
   (R6 n a1 a0 c f) ((aA .i64 (b.1+1)),j)) n (0,[]))
  <| c b.2
def Vd (n:Nat)(a0:Av)(a1:(List Int)):Option ((List Aw)) :=
 R6 n a1 a0
  (fun b=>some b) n (0,[])
def Pi (n:Nat)(a1:A8)(a0:(List Br))(x3:(List (Int×Bool)))(b:Option (Du×Int)):Nat->Int->Option (Du×Int)
 |0,_=>none
 |d+1,c =>
  cnd (decide (c<((a1.fStates.map Aj).length:Int)))
   (mgv x3 c (false:Bool) fun f h =>
   cnd (!(f))
    ((Pi n a1 a0 x3 b d) (aA .i64 (c+1)))
   <| bnd (Sc n (⟨a0,a1⟩:Av) c) fun e =>
   cnd (!(e.map aI).isEmpty)
    (nlw 14 <| reg <| bnd (Vd n (⟨a0,a1⟩:Av) e) fun g =>
    some (⟨2,0,g,((e.map aI).length:Int)⟩,0))
   <| (Pi n a1 a0 x3 b d) (aA .i64 (c+1)))
  <| b
noncomputable def My (n:Nat)(a0:(List Br))(a1:A8)(a2:Int):Option (Du×Int) :=
 bnd (Sx n a0 a1 a2) fun x1 =>
 cnd (!decide (x1=0))
  (some (⟨0,0,[],0⟩,x1))
 <| bnd (Sy n a1 a2) fun x2 =>
 cnd (x2.2)
  (some (⟨1,x2.1,[],0⟩,0))
 <| bnd (Sd n (⟨a0,a1⟩:Av)) fun x3 =>
 Pi n a1 a0 x3
  (some (⟨0,0,[],0⟩,0)) n 0
structure Jg where
 fsource:Int
 fseq:Int
deriving DecidableEq,Inhabited
def Jf (x:Jg):AV:=.agg [aI (x.fsource),aI (x.fseq)]
def Vr (n:Nat)(a0:Aw):Option (Bool) :=
 cnd (decide (0<=a0.fTime))
  (cnd (decide (a0.fTime<=1099511627776))
    (cnd (decide (0<=a0.fSource))
      (cnd (decide (a0.fSource<8))
        (cnd (decide (0<=a0.fSeq))
          (some (decide (a0.fSeq<=1099511627776)))
        <| some false)
      <| some false)
    <| some false)
  <| some false)
 <| some false
def T9 (n:Nat)(a0:Aw):Option (Dy) :=
 some (⟨a0.fTime,a0.fSource,a0.fSeq⟩)
def Vv (n:Nat)(a0:Aw)(a1:Aw):Option (Int) :=
 bnd (T9 n a0) fun x1 =>
 bnd (T9 n a1) fun x2 =>
 cnd ((decide (x1.fTime=x2.fTime) && (decide (x1.fSource=x2.fSource) && (decide (x1.fSeq=x2.fSeq) && true))))
  (some 0)
 <| bnd (Dt n a0.fTime a1.fTime) fun x3 =>
 bnd (Dt n a0.fSource a1.fSource) fun x4 =>
 bnd (Dt n a0.fSeq a1.fSeq) fun x5 =>
 bnd (K5 n ([x3,x4,x5])) fun x6 =>
 some x6
def N4 (n:Nat)(a0:Aw):Option (Jg) :=
 some (⟨a0.fSource,a0.fSeq⟩)
def Pp (n:Nat)(a0:(List Aw))(c:Option (Int)):Nat->Int×(List (Jg×Bool))->Option (Int)
 |0,_=>none
 |e+1,b =>
  cnd (decide (b.1<((a0.map Ar).length:Int)))
   (idx a0 b.1 fun d =>
   bnd (Vr n d) fun f =>
   cnd (!(f))
    (some 2)
   <| cnd (decide (0<b.1))
    (idx a0 (aA .i64 (b.1-1)) fun g =>
    bnd (Vv n g d) fun h =>
    cnd (decide (0<=h))
     (some 14)
    <| bnd (N4 n d) fun j =>
    mgt b.2 j (false:Bool) fun k u =>
    cnd (k)
     (some 7)
    <| bnd (N4 n d) fun l =>
    mst b.2 l true fun o =>
    (Pp n a0 c e) ((aA .i64 (b.1+1)),o))
   <| bnd (N4 n d) fun p =>
   mgt b.2 p (false:Bool) fun q v =>
   cnd (q)
    (some 7)
   <| bnd (N4 n d) fun s =>
   mst b.2 s true fun t =>
   (Pp n a0 c e) ((aA .i64 (b.1+1)),t))
  <| c
def Vx (n:Nat)(a0:(List Aw)):Option (Int) :=
 cnd (decide (4096<((a0.map Ar).length:Int)))
  (some 5)
 <| Pp n a0
  (some 0) n (0,[])
structure zm1 where
 fa:A8
 fheld:(List (Dy×Aw))
deriving Inhabited
def Hf (n:Nat)(b:Bool):Option (Int) :=
 cnd (b)
  (some 2)
 <| some 0
def Mf (n:Nat)(a0:Aw)(b:Bool):Option (Int) :=
 cnd (b)
  (some 32)
 <| jon (Hf n) <|
 reg <| cnd (decide (a0.fSeq<0))
  (Hf n true)
 <| cnd (decide (1099511627776<a0.fSeq))
  (Hf n true)
 <| cnd (decide (a0.fTime<0))
  (Hf n true)
 <| Hf n (decide (1099511627776<a0.fTime))
def Vu (n:Nat)(a0:Aw):Option (Int) :=
 jon (Mf n a0) <|
 reg <| cnd (decide (a0.fSource<0))
  (Mf n a0 true)
 <| Mf n a0 (decide (8<=a0.fSource))
def Sq (n:Nat)(a1:Aw)(x3:Br)(c:Option (Int)):Nat->Int->Option (Int)
 |0,_=>none
 |d+1,b =>
  cnd (decide (b<((a1.fValues.map Aa).length:Int)))
   (idx a1.fValues b fun e =>
   bnd (F5 n e) fun f =>
   cnd (!decide (f=0))
    (some f)
   <| idx x3.fFields b fun g =>
   cnd (!decide (e.fKind=g.fKind))
    (some 9)
   <| (Sq n a1 x3 c d) (aA .i64 (b+1)))
  <| c
def Mv (n:Nat)(a1:Aw)(a0:(List Br))(b:Bool):Option (Int) :=
 cnd (b)
  (some 6)
 <| idx a0 a1.fType fun x3 =>
 cnd (!decide (((a1.fValues.map Aa).length:Int)=((x3.fFields.map Dh).length:Int)))
  (some 15)
 <| Sq n a1 x3
  (some 0) n 0
def W0 (n:Nat)(a0:(List Br))(a1:Aw):Option (Int) :=
 bnd (Vu n a1) fun x1 =>
 cnd (!decide (x1=0))
  (some x1)
 <| jon (Mv n a1 a0) <|
 reg <| cnd (decide (a1.fType<0))
  (Mv n a1 a0 true)
 <| Mv n a1 a0 (decide (((a0.map Ay).length:Int)<=a1.fType))
def W3 (n:Nat)(a0:(List Br))(a1:Aw):Option (Int) :=
 bnd (Sm n a0) fun x1 =>
 cnd (!decide (x1=0))
  (some x1)
 <| bnd (W0 n a0 a1) fun x2 =>
 some x2
def Mb (n:Nat)(b:Bool):Option (Int) :=
 cnd (b)
  (some 2)
 <| some 0
def Mc (n:Nat)(a0:Du)(b:Int):Option (Int) :=
 jon (Mb n) <|
 reg <| cnd (decide (a0.fPeriod<=b))
  (Mb n true)
 <| Mb n (decide (1099511627776<a0.fPeriod))
def Vt (n:Nat)(a0:Du):Option (Int) :=
 jon (Mc n a0) <|
 reg <| cnd (decide (0<((a0.fPrefix.map Ar).length:Int)))
  (idx a0.fPrefix (aA .i64 (((a0.fPrefix.map Ar).length:Int)-1)) fun x5 =>
  idx a0.fPrefix 0 fun x6 =>
  Mc n a0 (aA .i64 (x5.fTime-x6.fTime)))
 <| Mc n a0 0
def V2 (n:Nat)(a0:Int)(a1:Av)(a2:Int):Option (Bool) :=
 bnd (Og n a1 a2 a0) fun x1 =>
 some x1
def R1 (n:Nat)(d:Int)(e:Av)(a0:(List Int))(c:Option (Int)):Nat->Int->Option (Int)
 |0,_=>none
 |f+1,b =>
  cnd (decide (b<((a0.map aI).length:Int)))
   (idx a0 b fun g =>
   bnd (V2 n g e d) fun h =>
   cnd (h)
    (some b)
   <| (R1 n d e a0 c f) (aA .i64 (b+1)))
  <| c
def V6 (n:Nat)(a0:(List Int))(b:Av)(c:Int):Option (Int) :=
 R1 n c b a0
  (some (-1)) n 0
def Ux (n:Nat)(a0:(List Int))(b:Av)(c:Int):Option (Bool) :=
 bnd (V6 n a0 b c) fun x1 =>
 some (decide (0<=x1))
def Rj (n:Nat)(a0:Int)(m0:(List Int))(m1:Av):Option (Bool×(List Int)×Av) :=
 bnd (Ux n m0 m1 a0) fun x1 =>
 some (!(x1),m0,m1)
def V9 (n:Nat)(a0:Ab)(m0:Int)(m1:(List (Int×Bool))):Option (Bool×Int×(List (Int×Bool))) :=
 cnd (decide (0<=a0.fTo))
  (cnd (decide (a0.fType=m0))
    (mgt m1 a0.fFrom (false:Bool) fun x1 x2 =>
    some (x1,m0,m1))
  <| some (false,m0,m1))
 <| some (false,m0,m1)
def Kk (n:Nat)(a0:Av)(c:Int->(List Ab)->(List (Int×Bool))->Option ((List Ab)×Int×(List (Int×Bool)))):Nat->Int×Int×(List Ab)×(List (Int×Bool))->Option ((List Ab)×Int×(List (Int×Bool)))
 |0,_=>none
 |d+1,b =>
  cnd (decide (b.1<((a0.fa.fEdges.map A7).length:Int)))
   (idx a0.fa.fEdges b.1 fun f =>
   bnd (Fu n a0 f) fun g =>
   cnd (g)
    (bndM 22 (V9 n f b.2.1 b.2.2.2) fun e =>
    cnd (e.1)
     (app b.2.2.1 [f] 240 fun h =>
     (Kk n a0 c d) ((aA .i64 (b.1+1)),e.2.1,h,e.2.2))
    <| (Kk n a0 c d) ((aA .i64 (b.1+1)),e.2.1,b.2.2.1,e.2.2))
   <| (Kk n a0 c d) ((aA .i64 (b.1+1)),b.2.1,b.2.2.1,b.2.2.2))
  <| c b.2.1 b.2.2.1 b.2.2.2
def Uz (n:Nat)(a0:Av)(m0:Int)(m1:(List (Int×Bool))):Option ((List Ab)×Int×(List (Int×Bool))) :=
 Kk n a0
  (fun b c d=>frz 7027 <| reg <| some (c,b,d)) n (0,m0,[],m1)
noncomputable def R8 (n:Nat)(d:Option (Bool)):Nat->(List Int)×(List Br)×Int×Int×(List Dw)×(List Ab)×(List (Int×Bool))->Option (Bool)
 |0,_=>none
 |e+1,b =>
  nxt b.2.2.2.2.2.2
   (d)
  <| pck b.2.2.2.2.2.2 fun f g =>
  reg <| bndM 56 (Rj n f.1 b.1 (⟨b.2.1,⟨b.2.2.1,b.2.2.2.1,b.2.2.2.2.1,b.2.2.2.2.2.1⟩⟩:Av)) fun c =>
  cnd (c.1)
   (some true)
  <| (R8 n d e) (c.2.1,c.2.2.ftypes,c.2.2.fa.fVars,c.2.2.fa.fScopes,c.2.2.fa.fStates,c.2.2.fa.fEdges,g)
def R7 (n:Nat)(f:Bool×(List Br)×Int×Int×(List Dw)×(List Ab)×(List Int))(g:Int×(List (Int×Bool)))(d:(List Ab)×Int×(List (Int×Bool)))(c:(List (Int×Bool))->(List (Int×Bool))->Option (Bool)):Nat->Int×(List (Int×Bool))->Option (Bool)
 |0,_=>none
 |e+1,b =>
  cnd (decide (b.1<((d.1.map A7).length:Int)))
   (idx d.1 b.1 fun h =>
   mst b.2 h.fTo true fun j =>
   (R7 n f g d c e) ((aA .i64 (b.1+1)),j))
  <| c b.2 d.2.2
def R9 (n:Nat)(b:Bool×(List Br)×Int×Int×(List Dw)×(List Ab)×(List Int))(d:(List (Int×Bool))->Option (Bool)):Nat->Int×(List (Int×Bool))->Option (Bool)
 |0,_=>none
 |f+1,c =>
  cnd (decide (c.1<((b.2.2.2.2.2.2.map aI).length:Int)))
   (idx b.2.2.2.2.2.2 c.1 fun h =>
   bndM 33 (Uz n (⟨b.2.1,⟨b.2.2.1,b.2.2.2.1,b.2.2.2.2.1,b.2.2.2.2.2.1⟩⟩:Av) h c.2) fun j =>
   R7 n b c j
    (fun e g=>(R9 n b d f) ((aA .i64 (c.1+1)),e)) n (0,[]))
  <| d c.2
noncomputable def La (n:Nat)(b:Bool×(List Br)×Int×Int×(List Dw)×(List Ab)×(List Int)):Option (Bool) :=
 cnd (b.1)
  (some false)
 <| mst [] 0 true fun x9 =>
 R9 n b
  (fun c=>frs 7022 c <| reg <| bnd (Sd n (⟨b.2.1,⟨b.2.2.1,b.2.2.2.1,b.2.2.2.2.1,b.2.2.2.2.2.1⟩⟩:Av)) fun d =>
 bnd (Mx n (C5 c) d) fun e =>
 R8 n
  (some false) n (b.2.2.2.2.2.2,b.2.1,b.2.2.1,b.2.2.2.1,b.2.2.2.2.1,b.2.2.2.2.2.1,e)) n (0,x9)
noncomputable def Vm (n:Nat)(a0:Av)(a1:(List Int)):Option (Bool) :=
 jon (La n) <|
 reg <| cnd (decide (((a1.map aI).length:Int)=0))
  (La n (true,a0.ftypes,a0.fa.fVars,a0.fa.fScopes,a0.fa.fStates,a0.fa.fEdges,a1))
 <| bndM 19 (Rj n 0 a1 a0) fun b =>
 La n (!(b.1),b.2.2.ftypes,b.2.2.fa.fVars,b.2.2.fa.fScopes,b.2.2.fa.fStates,b.2.2.fa.fEdges,b.2.1)
def Qw (n:Nat)(a2:Du)(a1:Int)(a0:Av)(d:(List Int))(c:Option (Int)):Nat->Int->Option (Int)
 |0,_=>none
 |e+1,b =>
  cnd (decide (b<((a2.fPrefix.map Ar).length:Int)))
   (idx a2.fPrefix b fun f =>
   idx a2.fPrefix (aA .i64 (b-a1)) fun g =>
   cnd (decide (f.fTime=g.fTime))
    (some 5)
   <| (Qw n a2 a1 a0 d c e) (aA .i64 (b+1)))
  <| c
def Qx (n:Nat)(a2:Du)(a1:Int)(a0:Av)(c:(List Int)->Option (Int)):Nat->Int×(List Int)->Option (Int)
 |0,_=>none
 |d+1,b =>
  cnd (decide (b.1<((a2.fPrefix.map Ar).length:Int)))
   (idx a2.fPrefix b.1 fun e =>
   bnd (W3 n a0.ftypes e) fun f =>
   cnd (!decide (f=0))
    (some f)
   <| app b.2 [e.fType] 8 fun g =>
   (Qx n a2 a1 a0 c d) ((aA .i64 (b.1+1)),g))
  <| c b.2
noncomputable def V4 (n:Nat)(a0:Av)(a1:Int)(a2:Du):Option (Int) :=
 bnd (Vx n a2.fPrefix) fun x1 =>
 cnd (!decide (x1=0))
  (some x1)
 <| Qx n a2 a1 a0
  (fun b=>Qw n a2 a1 a0 b
  (bnd (Vt n a2) fun c =>
 cnd (!decide (c=0))
  (some c)
 <| bnd (Vm n a0 b) fun d =>
 cnd (!(d))
  (some 18)
 <| some 0) n a1) n (0,[])
def Md (n:Nat)(b:Bool):Option (Int) :=
 cnd (b)
  (some 18)
 <| some 0
noncomputable def Me (n:Nat)(a3:Du)(a2:Int)(a1:A8)(b:Bool):Option (Int) :=
 cnd (b)
  (some 3)
 <| bnd (Sy n a1 a2) fun x3 =>
 jon (Md n) <|
 reg <| cnd (!(x3.2))
  (Md n true)
 <| Md n (decide (a3.fBound<x3.1))
noncomputable def Ss (n:Nat)(a0:(List Br))(a1:A8)(a2:Int)(a3:Du):Option (Int) :=
 bnd (Sx n a0 a1 a2) fun x1 =>
 cnd (!decide (x1=0))
  (some x1)
 <| cnd (decide (a3.fVerdict=1))
  (jon (Me n a3 a2 a1) <|
  reg <| cnd (decide (0<((a3.fPrefix.map Ar).length:Int)))
   (Me n a3 a2 a1 true)
  <| Me n a3 a2 a1 (!decide (a3.fPeriod=0)))
 <| cnd (decide (a3.fVerdict=2))
  (cnd (!decide (a3.fBound=0))
    (some 3)
  <| bnd (V4 n (⟨a0,a1⟩:Av) a2 a3) fun x5 =>
  some x5)
 <| some 1
def Ix (n:Nat)(b:Bool):Option (Bool) :=
 some b
def Jb (n:Nat)(a0:Ak):Option (Bool) :=
 jon (Ix n) <|
 reg <| bnd (Eu n a0 200) fun x4 =>
 cnd (decide (x4<=200))
  (bnd (Et n a0) fun x5 =>
  Ix n (decide (x5<=100)))
 <| Ix n false
def Lo (n:Nat)(a0:(List B5))(b:Option (Bool)):Nat->Int->Option (Bool)
 |0,_=>none
 |d+1,c =>
  cnd (decide (c<((a0.map B0).length:Int)))
   (idx a0 c fun e =>
   bnd (Jb n e.fCond) fun f =>
   cnd (!(f))
    (some false)
   <| (Lo n a0 b d) (aA .i64 (c+1)))
  <| b
def P4 (n:Nat)(a0:(List B5)):Option (Bool) :=
 Lo n a0
  (some true) n 0
def Iw (n:Nat)(b:Bool):Option (Bool) :=
 some b
def Lp (n:Nat)(a0:A8)(f:Int)(d:Ab)(b:Option (Bool)):Nat->Int->Option (Bool)
 |0,_=>none
 |e+1,c =>
  cnd (decide (c<((d.fChecks.map idA).length:Int)))
   (idxD Bs d.fChecks c fun g =>
   bnd (Jb n g) fun h =>
   cnd (!(h))
    (some false)
   <| (Lp n a0 f d b e) (aA .i64 (c+1)))
  <| b
def Ea (n:Nat)(a0:A8)(b:Int)(c:Int->Option (Bool))(e:Ab)(d:Bool):Option (Bool) :=
 cnd (d)
  (some false)
 <| Lp n a0 b e
  (c (aA .i64 (b+1))) n 0
def Il (n:Nat)(a0:A8)(d:Int)(e:Option (Bool))(c:Int->Option (Bool))(f:Bool):Option (Bool) :=
 cnd (f)
  (idx a0.fEdges d fun b =>
  jon (Ea n a0 d c b) <|
  reg <| bnd (Jb n b.fCond) fun g =>
  cnd (!(g))
   (Ea n a0 d c b true)
  <| cnd (decide (8<((b.fChecks.map idA).length:Int)))
   (Ea n a0 d c b true)
  <| cnd (decide (12<((b.fOpens.map aI).length:Int)))
   (Ea n a0 d c b true)
  <| cnd (decide (12<((b.fCloses.map aI).length:Int)))
   (Ea n a0 d c b true)
  <| cnd (decide (12<((b.fInside.map aI).length:Int)))
   (Ea n a0 d c b true)
  <| Ea n a0 d c b (decide (12<((b.fLimits.map Bj).length:Int))))
 <| e
def H3 (n:Nat)(a0:A8)(b:Option (Bool)):Nat->Int->Option (Bool)
 |0,_=>none
 |d+1,c =>
  jon (Il n a0 c b (H3 n a0 b d)) <|
  reg <| cnd (decide (c<((a0.fEdges.map A7).length:Int)))
   (Il n a0 c b (H3 n a0 b d) (decide (c<60)))
  <| Il n a0 c b (H3 n a0 b d) false
def Er (n:Nat)(a0:A8)(d:Int)(b:Int->Option (Bool))(c:Bool):Option (Bool) :=
 cnd (c)
  (some false)
 <| b (aA .i64 (d+1))
def Ik (n:Nat)(a0:A8)(b:Int)(d:Option (Bool))(c:Int->Option (Bool))(e:Bool):Option (Bool) :=
 cnd (e)
  (jon (Er n a0 b c) <|
  reg <| idx a0.fStates b fun f =>
  cnd (decide (12<((f.fGuards.map B0).length:Int)))
   (idx a0.fStates b fun g =>
   cnd (decide (((g.fGuards.map B0).length:Int)<=64))
    (Er n a0 b c true)
   <| idx a0.fStates b fun h =>
   cnd (decide (70<((h.fGuards.map B0).length:Int)))
    (Er n a0 b c true)
   <| idx a0.fStates b fun j =>
   bnd (P4 n j.fGuards) fun k =>
   Er n a0 b c !(k))
  <| idx a0.fStates b fun l =>
  cnd (decide (70<((l.fGuards.map B0).length:Int)))
   (Er n a0 b c true)
  <| idx a0.fStates b fun o =>
  bnd (P4 n o.fGuards) fun p =>
  Er n a0 b c !(p))
 <| d
def H4 (n:Nat)(a0:A8)(b:Option (Bool)):Nat->Int->Option (Bool)
 |0,_=>none
 |d+1,c =>
  jon (Ik n a0 c b (H4 n a0 b d)) <|
  reg <| cnd (decide (c<((a0.fStates.map Aj).length:Int)))
   (Ik n a0 c b (H4 n a0 b d) (decide (c<30)))
  <| Ik n a0 c b (H4 n a0 b d) false
def P5 (n:Nat)(a0:A8):Option (Bool) :=
 H4 n a0
  (H3 n a0
  (jon (Iw n) <|
 reg <| cnd (decide (((a0.fStates.map Aj).length:Int)<=20))
  (Iw n (decide (((a0.fEdges.map A7).length:Int)<=40)))
 <| Iw n false) n 0) n 0
def Ij (n:Nat)(a1:Int)(a0:A8)(c:(List Ab)->Option ((List Ab))):Nat->Int×(List Ab)->Option ((List Ab))
 |0,_=>none
 |d+1,b =>
  cnd (decide (b.1<((a0.fEdges.map A7).length:Int)))
   (reg <| idx a0.fEdges b.1 fun e =>
   cnd (decide (e.fFrom=a1))
    (idx a0.fEdges b.1 fun f =>
    app b.2 [f] 240 fun g =>
    (Ij n a1 a0 c d) ((aA .i64 (b.1+1)),g))
   <| (Ij n a1 a0 c d) ((aA .i64 (b.1+1)),b.2))
  <| c b.2
def P0 (n:Nat)(a0:A8)(a1:Int):Option ((List Ab)) :=
 Ij n a1 a0
  (fun b=>some b) n (0,[])
attribute [irreducible] Mj Ez Mu Jk Ly Mm Mn Dp E9 Dc Hh Hz I8 I9 He G2 Iz Iy Jo J8 I7 Gy                    Hf Mf Mv Mb Mc La Md Me   Ix Iw Ea Il Er Ik                
end Go.Proofs.YthbogefcfhmpgaaGreat
