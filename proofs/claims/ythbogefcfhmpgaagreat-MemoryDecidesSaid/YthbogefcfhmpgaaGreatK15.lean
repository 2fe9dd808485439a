/- What some functions compute, over plain values. -/
import Derived.Test.YthbogefcfhmpgaaGreatK13
import Derived.Test.YthbogefcfhmpgaaGreatK14
set_option linter.unusedVariables false
set_option linter.unusedSimpArgs false
set_option maxRecDepth 100000
set_option maxHeartbeats 8000000
namespace Go.Proofs.YthbogefcfhmpgaaGreat
open Go.RowKit
open IntKind renaming wrap->aA
def z4a (n:Nat)(a0:Dj)(a1:Dj):Option (Bool) :=
 bnd (zgy n a0 a1) fun x1 =>
 some (decide (x1=0))
def Z9 (n:Nat)(c:Nat)(d:Int->(List Dj)->Option ((List Dj))):Nat->Int×Int×(List Dj)->Option ((List Dj))
 |0,_=>none
 |e+1,b =>
  gle c (b.2.2.map Fn).length <|
  cnd (decide (b.2.1<((((b.2.2.map Fn).length-c:Nat)):Int)))
   (nat b.2.1 ((b.2.2.map Fn).length-c) fun g =>
   elt b.2.2 (c+g) fun h =>
   nat (aA .i64 (b.2.1-1)) ((b.2.2.map Fn).length-c) fun j =>
   elt b.2.2 (c+j) fun k =>
   bnd (z4a n h k) fun l =>
   cnd (!(l))
    (nat b.2.1 ((b.2.2.map Fn).length-c) fun o =>
    elt b.2.2 (c+o) fun p =>
    nat b.1 (b.2.2.map Fn).length fun q =>
    stx b.2.2 q (fun s=>p) fun f =>
    (Z9 n c d e) ((aA .i64 (b.1+1)),(aA .i64 (b.2.1+1)),f))
   <| (Z9 n c d e) (b.1,(aA .i64 (b.2.1+1)),b.2.2))
  <| d b.1 b.2.2
def z5r (n:Nat)(m0:(List Dj))(e:Option ((List Dj))):Nat->Int->Option ((List Dj))
 |0,_=>none
 |f+1,b =>
  cnd (decide (b<((m0.map Fn).length:Int)))
   (nat b (m0.map Fn).length fun g =>
   elt m0 g fun h =>
   nat (aA .i64 (b-1)) (m0.map Fn).length fun j =>
   elt m0 j fun k =>
   bnd (z4a n h k) fun l =>
   cnd (l)
    (nle b (m0.map Fn).length fun o =>
    Z9 n o
     (fun c d=>nle c (d.map Fn).length fun p =>
    clr d p (⟨0,[],[]⟩:Dj) fun q =>
    sls q 0 c fun s =>
    some s) n (b,1,m0))
   <| (z5r n m0 e f) (aA .i64 (b+1)))
  <| e
structure zq0 where
 fSets:(List (List Dj))
deriving DecidableEq,Inhabited
structure Rj where
 fName:ByteArray
 fKind:Int
deriving DecidableEq,Inhabited
def C7 (x:Rj):AV:=.agg [.str (x.fName),aI (x.fKind)]
abbrev zcm (x:Rj):List AV:=[.str (x.fName),aI (x.fKind)]
structure Ah where
 fName:ByteArray
 fFields:(List Rj)
deriving DecidableEq,Inhabited
def Al (x:Ah):AV:=.agg [.str (x.fName),.sl 2 (x.fFields.map C7)]
structure C3 where
 fVerdict:Int
 fBound:Int
 fPrefix:(List Aw)
 fPeriod:Int
deriving DecidableEq,Inhabited
def Kb (n:Nat)(b:Bool):Option (Bool) :=
 some b
def Fm (n:Nat)(a0:Int):Option (Bool) :=
 jon (Kb n) <|
 reg <| cnd (decide (48<=a0))
  (Kb n (decide (a0<=57)))
 <| Kb n false
def Es (n:Nat)(b:Bool):Option (Bool) :=
 some b
def Kh (n:Nat)(a0:Int):Option (Bool) :=
 jon (Es n) <|
 reg <| cnd (decide (a0=95))
  (Es n true)
 <| cnd (decide (97<=a0))
  (cnd (decide (a0<=122))
    (Es n true)
  <| cnd (decide (65<=a0))
   (Es n (decide (a0<=90)))
  <| Es n false)
 <| cnd (decide (65<=a0))
  (Es n (decide (a0<=90)))
 <| Es n false
def Eu (n:Nat)(a0:ByteArray)(c:Int)(b:Int->Option (Bool))(d:Bool):Option (Bool) :=
 cnd (d)
  (some false)
 <| b (aA .i64 (c+1))
def Dy (n:Nat)(a0:ByteArray)(b:Option (Bool)):Nat->Int->Option (Bool)
 |0,_=>none
 |d+1,c =>
  cnd (decide (c<((a0.size:Nat):Int)))
   (jon (Eu n a0 c (Dy n a0 b d)) <|
   reg <| idb a0 c fun e =>
   bnd (Kh n e) fun f =>
   cnd (!(f))
    (idb a0 c fun g =>
    bnd (Fm n g) fun h =>
    Eu n a0 c (Dy n a0 b d) !(h))
   <| Eu n a0 c (Dy n a0 b d) false)
  <| b
def D9 (n:Nat)(a0:ByteArray)(b:Bool):Option (Bool) :=
 cnd (b)
  (some false)
 <| Dy n a0
  (some true) n 0
def Kl (n:Nat)(a0:ByteArray):Option (Bool) :=
 jon (D9 n a0) <|
 reg <| cnd (decide (((a0.size:Nat):Int)=0))
  (D9 n a0 true)
 <| cnd (decide (24<((a0.size:Nat):Int)))
  (D9 n a0 true)
 <| idb a0 0 fun b =>
 bnd (Fm n b) fun c =>
 D9 n a0 c
def Jw (n:Nat)(b:Bool):Option (Bool) :=
 some b
def Qw (n:Nat)(a0:ByteArray):Option (Bool) :=
 jon (Jw n) <|
 reg <| bnd (Kl n a0) fun x3 =>
 cnd (x3)
  (Jw n (!(a0.toList == (ByteArray.mk #[116,105,109,101]).toList)))
 <| Jw n false
def I2 (n:Nat)(a0:Ah)(b:Int×(List (ByteArray×Bool)))(c:(Int×(List (ByteArray×Bool)))->Option (Int))(e:Rj)(d:Bool):Option (Int) :=
 cnd (d)
  (some 1)
 <| mst b.2 e.fName true fun f =>
 c ((aA .i64 (b.1+1)),f)
def Fk (n:Nat)(a0:Ah)(b:Option (Int)):Nat->Int×(List (ByteArray×Bool))->Option (Int)
 |0,_=>none
 |e+1,c =>
  cnd (decide (c.1<((a0.fFields.map C7).length:Int)))
   (idx a0.fFields c.1 fun d =>
   bnd (Qw n d.fName) fun f =>
   cnd (!(f))
    (some 8)
   <| mgt c.2 d.fName (false:Bool) fun g h =>
   cnd (g)
    (some 7)
   <| jon (I2 n a0 c (Fk n a0 b e) d) <|
   reg <| cnd (decide (d.fKind<0))
    (I2 n a0 c (Fk n a0 b e) d true)
   <| I2 n a0 c (Fk n a0 b e) d (decide (3<=d.fKind)))
  <| b
def Ng (n:Nat)(a0:Ah):Option (Int) :=
 bnd (Kl n a0.fName) fun x1 =>
 cnd (!(x1))
  (some 8)
 <| cnd (decide (8<((a0.fFields.map C7).length:Int)))
  (some 5)
 <| Fk n a0
  (some 0) n (0,[])
def K2 (n:Nat)(a0:(List Ah))(c:Option (Int)):Nat->Int×(List (ByteArray×Bool))->Option (Int)
 |0,_=>none
 |e+1,b =>
  cnd (decide (b.1<((a0.map Al).length:Int)))
   (idx a0 b.1 fun d =>
   bnd (Ng n d) fun f =>
   cnd (!decide (f=0))
    (some f)
   <| mgt b.2 d.fName (false:Bool) fun g j =>
   cnd (g)
    (some 7)
   <| mst b.2 d.fName true fun h =>
   (K2 n a0 c e) ((aA .i64 (b.1+1)),h))
  <| c
def Fl (n:Nat)(a0:(List Ah)):Option (Int) :=
 cnd (decide (16<((a0.map Al).length:Int)))
  (some 5)
 <| K2 n a0
  (some 0) n (0,[])
def Kc (n:Nat)(b:Bool):Option (Int) :=
 cnd (b)
  (some 2)
 <| some 0
def Gp (n:Nat)(a0:(List Ah))(a1:A9)(a2:Int):Option (Int) :=
 bnd (Fl n a0) fun x1 =>
 cnd (!decide (x1=0))
  (some x1)
 <| bnd (C1 n a1) fun x2 =>
 cnd (!decide (x2=0))
  (some x2)
 <| jon (Kc n) <|
 reg <| cnd (decide (a2<1))
  (Kc n true)
 <| Kc n (decide (4096<a2))
structure B8 where
 freachable:(List (Int×Bool))
 finner:(List (Int×Bool))
deriving DecidableEq,Inhabited
def Mn (n:Nat)(a1:Int)(a0:A9)(c:(List Int)->Option ((List Int))):Nat->Int×(List Int)->Option ((List Int))
 |0,_=>none
 |d+1,b =>
  cnd (decide (b.1<((a0.fEdges.map Ab).length:Int)))
   (idx a0.fEdges b.1 fun e =>
   reg <| cnd (decide (e.fFrom=a1))
    (app b.2 [b.1] 8 fun f =>
    (Mn n a1 a0 c d) ((aA .i64 (b.1+1)),f))
   <| (Mn n a1 a0 c d) ((aA .i64 (b.1+1)),b.2))
  <| c b.2
def Tv (n:Nat)(a0:A9)(a1:Int):Option ((List Int)) :=
 Mn n a1 a0
  (fun b=>some b) n (0,[])
def L6 (n:Nat)(a1:A9)(x1:(List Int))(c:(List Int)->Option ((List Int))):Nat->Int×(List Int)->Option ((List Int))
 |0,_=>none
 |d+1,b =>
  cnd (decide (b.1<((x1.map aI).length:Int)))
   (idx x1 b.1 fun f =>
   idx a1.fEdges f fun e =>
   reg <| cnd (decide (0<=e.fTo))
    (app b.2 [e.fTo] 8 fun g =>
    (L6 n a1 x1 c d) ((aA .i64 (b.1+1)),g))
   <| (L6 n a1 x1 c d) ((aA .i64 (b.1+1)),b.2))
  <| c b.2
def Sw (n:Nat)(a0:Int)(a1:A9):Option ((List Int)) :=
 bnd (Tv n a1 a0) fun x1 =>
 L6 n a1 x1
  (fun b=>some b) n (0,[])
def Jt (n:Nat)(b:Int->A9->(List Bool)->Option ((List Bool)))(a2bc0:A9)(x6:(List Int))(d:(List Bool)->Option ((List Bool))):Nat->Int×(List Bool)->Option ((List Bool))
 |0,_=>none
 |e+1,c =>
  cnd (decide (c.1<((x6.map aI).length:Int)))
   (idx x6 c.1 fun f =>
   bndM 24 (b f a2bc0 c.2) fun g =>
   (Jt n b a2bc0 x6 d e) ((aA .i64 (c.1+1)),g))
  <| d c.2
def Gl:Nat->Int->A9->(List Bool)->Option ((List Bool))
 |0,_,_,_=>none
 |n+1,a0,a2bc0,m0 =>
 nat a0 (m0.map AV.bool).length fun x1 =>
 elt m0 x1 fun x2 =>
 cnd (x2)
  (some m0)
 <| nat a0 (m0.map AV.bool).length fun x3 =>
 stx m0 x3 (fun x4=>true) fun x5 =>
 bnd (Sw n a0 a2bc0) fun x6 =>
 Jt n (Gl n) a2bc0 x6
  (fun b=>some b) n (0,x5)
def K4 (n:Nat)(d:A9)(a1:(List Int))(c:(List Bool)->Option ((List Bool))):Nat->Int×(List Bool)->Option ((List Bool))
 |0,_=>none
 |e+1,b =>
  cnd (decide (b.1<((a1.map aI).length:Int)))
   (idx a1 b.1 fun f =>
   reg <| bndM 24 (Gl n f d b.2) fun g =>
   (K4 n d a1 c e) ((aA .i64 (b.1+1)),g))
  <| c b.2
def Na (n:Nat)(a0:A9)(a1:(List Int))(c:A9):Option ((List Bool)) :=
 mak ((a0.fStates.map Aq).length:Int) 1 (false:Bool) fun x1 =>
 K4 n c a1
  (fun b=>some b) n (0,x1)
def T9 (n:Nat)(a0:A9):Option ((List Bool)) :=
 frb 1 <| reg <| bnd (Na n a0 [0] a0) fun x1 =>
 some x1
def Mm (n:Nat)(a0:(List Bool))(c:(List Int)->Option ((List Int))):Nat->Int×(List Int)->Option ((List Int))
 |0,_=>none
 |d+1,b =>
  cnd (decide (b.1<((a0.map AV.bool).length:Int)))
   (idx a0 b.1 fun e =>
   reg <| cnd (e)
    (app b.2 [b.1] 8 fun f =>
    (Mm n a0 c d) ((aA .i64 (b.1+1)),f))
   <| (Mm n a0 c d) ((aA .i64 (b.1+1)),b.2))
  <| c b.2
def Tu (n:Nat)(a0:(List Bool)):Option ((List Int)) :=
 Mm n a0
  (fun b=>some b) n (0,[])
def Mu (n:Nat)(a0:A9):Option ((List Int)×Int) :=
 bnd (C1 n a0) fun x1 =>
 cnd (!decide (x1=0))
  (some ([],x1))
 <| bnd (T9 n a0) fun x2 =>
 bnd (Tu n x2) fun x3 =>
 some (x3,0)
def Mb (n:Nat)(a1:A9)(a0:Int)(c:(List Int)->Option ((List Int))):Nat->Int×(List Int)->Option ((List Int))
 |0,_=>none
 |d+1,b =>
  cnd (decide (b.1<((a1.fEdges.map Ab).length:Int)))
   (idx a1.fEdges b.1 fun e =>
   reg <| cnd (decide (e.fTo=a0))
    (app b.2 [e.fFrom] 8 fun f =>
    (Mb n a1 a0 c d) ((aA .i64 (b.1+1)),f))
   <| (Mb n a1 a0 c d) ((aA .i64 (b.1+1)),b.2))
  <| c b.2
def Wq (n:Nat)(a0:Int)(a1:A9):Option ((List Int)) :=
 Mb n a1 a0
  (fun b=>some b) n (0,[])
def Iv (n:Nat)(b:Int->A9->(List Bool)->Option ((List Bool)))(a2bc0:A9)(x6:(List Int))(d:(List Bool)->Option ((List Bool))):Nat->Int×(List Bool)->Option ((List Bool))
 |0,_=>none
 |e+1,c =>
  cnd (decide (c.1<((x6.map aI).length:Int)))
   (idx x6 c.1 fun f =>
   bndM 24 (b f a2bc0 c.2) fun g =>
   (Iv n b a2bc0 x6 d e) ((aA .i64 (c.1+1)),g))
  <| d c.2
def G9:Nat->Int->A9->(List Bool)->Option ((List Bool))
 |0,_,_,_=>none
 |n+1,a0,a2bc0,m0 =>
 nat a0 (m0.map AV.bool).length fun x1 =>
 elt m0 x1 fun x2 =>
 cnd (x2)
  (some m0)
 <| nat a0 (m0.map AV.bool).length fun x3 =>
 stx m0 x3 (fun x4=>true) fun x5 =>
 bnd (Wq n a0 a2bc0) fun x6 =>
 Iv n (G9 n) a2bc0 x6
  (fun b=>some b) n (0,x5)
def J3 (n:Nat)(d:A9)(a1:(List Int))(c:(List Bool)->Option ((List Bool))):Nat->Int×(List Bool)->Option ((List Bool))
 |0,_=>none
 |e+1,b =>
  cnd (decide (b.1<((a1.map aI).length:Int)))
   (idx a1 b.1 fun f =>
   reg <| bndM 24 (G9 n f d b.2) fun g =>
   (J3 n d a1 c e) ((aA .i64 (b.1+1)),g))
  <| c b.2
def Ho (n:Nat)(a0:A9)(a1:(List Int))(c:A9):Option ((List Bool)) :=
 mak ((a0.fStates.map Aq).length:Int) 1 (false:Bool) fun x1 =>
 J3 n c a1
  (fun b=>some b) n (0,x1)
def Mt (n:Nat)(a0:A9)(c:(List Int)->Option ((List Bool))):Nat->Int×(List Int)->Option ((List Bool))
 |0,_=>none
 |d+1,b =>
  cnd (decide (b.1<((a0.fEdges.map Ab).length:Int)))
   (idx a0.fEdges b.1 fun e =>
   reg <| cnd (decide (e.fTo<0))
    (app b.2 [e.fFrom] 8 fun f =>
    (Mt n a0 c d) ((aA .i64 (b.1+1)),f))
   <| (Mt n a0 c d) ((aA .i64 (b.1+1)),b.2))
  <| c b.2
def U0 (n:Nat)(a0:A9):Option ((List Bool)) :=
 Mt n a0
  (fun b=>frz 7020 <| frb 1 <| reg <| bnd (Ho n a0 b a0) fun c =>
 some c) n (0,[])
def N7 (n:Nat)(a0:A9):Option ((List Int)×Int) :=
 bnd (C1 n a0) fun x1 =>
 cnd (!decide (x1=0))
  (some ([],x1))
 <| bnd (U0 n a0) fun x2 =>
 bnd (Tu n x2) fun x3 =>
 some (x3,0)
def Rg (n:Nat)(a0:(List Int))(c:(List (Int×Bool))->Option ((List (Int×Bool)))):Nat->Int×(List (Int×Bool))->Option ((List (Int×Bool)))
 |0,_=>none
 |d+1,b =>
  cnd (decide (b.1<((a0.map aI).length:Int)))
   (idx a0 b.1 fun e =>
   mst b.2 e true fun f =>
   (Rg n a0 c d) ((aA .i64 (b.1+1)),f))
  <| c b.2
def Uo (n:Nat)(a0:(List Int)):Option ((List (Int×Bool))) :=
 Rg n a0
  (fun b=>some b) n (0,[])
def I3 (n:Nat)(a0:A9)(x3:(List (Int×Bool)))(x4:(List (Int×Bool)))(c:(List (Int×Bool))->(List (Int×Bool))->Option (B8)):Nat->Int×(List (Int×Bool))->Option (B8)
 |0,_=>none
 |d+1,b =>
  cnd (decide (b.1<((a0.fEdges.map Ab).length:Int)))
   (idx a0.fEdges b.1 fun e =>
   reg <| cnd (decide (0<=e.fTo))
    (mgv x3 e.fFrom (false:Bool) fun f j =>
    cnd (f)
     (mgv x4 e.fTo (false:Bool) fun g k =>
     cnd (g)
      (mst b.2 e.fTo true fun h =>
      (I3 n a0 x3 x4 c d) ((aA .i64 (b.1+1)),h))
     <| (I3 n a0 x3 x4 c d) ((aA .i64 (b.1+1)),b.2))
    <| (I3 n a0 x3 x4 c d) ((aA .i64 (b.1+1)),b.2))
   <| (I3 n a0 x3 x4 c d) ((aA .i64 (b.1+1)),b.2))
  <| c x3 b.2
def I6 (n:Nat)(a0:A9):Option (B8) :=
 bnd (Mu n a0) fun x1 =>
 bnd (N7 n a0) fun x2 =>
 bnd (Uo n x1.1) fun x3 =>
 bnd (Uo n x2.1) fun x4 =>
 I3 n a0 x3 x4
  (fun b c=>some (⟨b,c⟩)) n (0,[])
def Dq (n:Nat)(a3:(List (List (Int×Bool))))(a2:Ai)(a1:A9)(a0:B8)(b:Int×(List (Int×Bool)))(c:(Int×(List (Int×Bool)))->Option ((List (Int×Bool))))(d:Bool):Option ((List (Int×Bool))) :=
 reg <| cnd (d)
  (mst b.2 b.1 true fun e =>
  c ((aA .i64 (b.1+1)),e))
 <| c ((aA .i64 (b.1+1)),b.2)
def E6 (n:Nat)(a3:(List (List (Int×Bool))))(a2:Ai)(a1:A9)(a0:B8)(c:Int×(List (Int×Bool)))(b:(Int×(List (Int×Bool)))->Option ((List (Int×Bool))))(e:Bool)(d:Bool):Option ((List (Int×Bool))) :=
 jon (Dq n a3 a2 a1 a0 c b) <|
 reg <| mgv a0.finner a2.fFrom (false:Bool) fun f j =>
 cnd (f)
  (reg <| cnd (d)
    (cnd (!(e))
      (idx a3 a2.fFrom fun g =>
      mgv g c.1 (false:Bool) fun h k =>
      Dq n a3 a2 a1 a0 c b h)
    <| Dq n a3 a2 a1 a0 c b false)
  <| Dq n a3 a2 a1 a0 c b false)
 <| Dq n a3 a2 a1 a0 c b d
def Cl (n:Nat)(a3:(List (List (Int×Bool))))(a2:Ai)(a1:A9)(a0:B8)(b:(List (Int×Bool))->Option ((List (Int×Bool)))):Nat->Int×(List (Int×Bool))->Option ((List (Int×Bool)))
 |0,_=>none
 |d+1,c =>
  cnd (decide (c.1<a1.fScopes))
   (bnd (Fj n a2.fOpens c.1) fun e =>
   bnd (Fj n a2.fCloses c.1) fun f =>
   jon (E6 n a3 a2 a1 a0 c (Cl n a3 a2 a1 a0 b d) e) <|
   reg <| cnd (decide (a2.fFrom=0))
    (reg <| cnd (!(f))
      (E6 n a3 a2 a1 a0 c (Cl n a3 a2 a1 a0 b d) e e)
    <| E6 n a3 a2 a1 a0 c (Cl n a3 a2 a1 a0 b d) e false)
   <| E6 n a3 a2 a1 a0 c (Cl n a3 a2 a1 a0 b d) e !(f))
  <| b c.2
def Q6 (n:Nat)(a0:B8)(a1:A9)(a2:Ai)(a3:(List (List (Int×Bool)))):Option ((List (Int×Bool))) :=
 Cl n a3 a2 a1 a0
  (fun b=>some b) n (0,[])
noncomputable def N6 (n:Nat)(a1:(List (Int×Bool)))(b:(List (Int×Bool))->Option ((List (Int×Bool)))):Nat->(List (Int×Bool))×(List (Int×Bool))->Option ((List (Int×Bool)))
 |0,_=>none
 |d+1,c =>
  nxt c.1
   (b c.2)
  <| pck c.1 fun e f =>
  reg <| reg <| mgv a1 e.1 (false:Bool) fun g j =>
  cnd (g)
   (mst c.2 e.1 true fun h =>
   (N6 n a1 b d) (f,h))
  <| (N6 n a1 b d) (f,c.2)
noncomputable def Rb (n:Nat)(a0:(List (Int×Bool)))(a1:(List (Int×Bool))):Option ((List (Int×Bool))) :=
 N6 n a1
  (fun b=>frs 7 b <| reg <| some (Cj b)) n (a0,[])
noncomputable def D6 (n:Nat)(a1:A9)(a0:B8)(b:Bool×Int×(List (List (Int×Bool))))(c:(Bool×Int×(List (List (Int×Bool))))->Option ((List (List (Int×Bool)))))(d:Ai)(f:Bool):Option ((List (List (Int×Bool)))) :=
 cnd (f)
  (c (b.1,(aA .i64 (b.2.1+1)),b.2.2))
 <| nat d.fTo (List.map (fun q=>AV.mapv (List.map (encM aI AV.bool) q)) (b.2.2)).length fun g =>
 elt b.2.2 g fun h =>
 bnd (Q6 n a0 a1 d b.2.2) fun j =>
 bnd (Rb n h j) fun e =>
 reg <| nat d.fTo (List.map (fun q=>AV.mapv (List.map (encM aI AV.bool) q)) (b.2.2)).length fun k =>
 elt b.2.2 k fun l =>
 cnd (decide ((((List.map (encM aI AV.bool) (e)).length:Nat):Int)<(((List.map (encM aI AV.bool) (l)).length:Nat):Int)))
  (nat d.fTo (List.map (fun q=>AV.mapv (List.map (encM aI AV.bool) q)) (b.2.2)).length fun o =>
  stx b.2.2 o (fun s=>e) fun p =>
  c (true,(aA .i64 (b.2.1+1)),p))
 <| c (b.1,(aA .i64 (b.2.1+1)),b.2.2)
noncomputable def Cq (n:Nat)(a1:A9)(a0:B8)(b:Bool->(List (List (Int×Bool)))->Option ((List (List (Int×Bool))))):Nat->Bool×Int×(List (List (Int×Bool)))->Option ((List (List (Int×Bool))))
 |0,_=>none
 |e+1,c =>
  cnd (decide (c.2.1<((a1.fEdges.map Ab).length:Int)))
   (idx a1.fEdges c.2.1 fun d =>
   jon (D6 n a1 a0 c (Cq n a1 a0 b e) d) <|
   reg <| cnd (decide (d.fTo<0))
    (D6 n a1 a0 c (Cq n a1 a0 b e) d true)
   <| mgv a0.freachable d.fFrom (false:Bool) fun f h =>
   cnd (!(f))
    (D6 n a1 a0 c (Cq n a1 a0 b e) d true)
   <| mgv a0.finner d.fTo (false:Bool) fun g j =>
   D6 n a1 a0 c (Cq n a1 a0 b e) d !(g))
  <| b c.1 c.2.2
noncomputable def D5 (n:Nat)(a1:A9)(a0:B8)(b:(List (List (Int×Bool)))->Option ((List (List (Int×Bool))))):Nat->Bool×(List (List (Int×Bool)))->Option ((List (List (Int×Bool))))
 |0,_=>none
 |f+1,c =>
  cnd (c.1)
   (Cq n a1 a0
     (fun d e=>(D5 n a1 a0 b f) (d,e)) n (false,0,c.2))
  <| b c.2
def Ox (n:Nat)(a1:A9)(a0:B8)(e:Nat×(Ars (List (Int×Bool)))×(List (Int×Bool)))(d:(Int×Bool))(f:(List (Int×Bool)))(c:(Ars (List (Int×Bool)))->(List (Int×Bool))->Option ((List (List (Int×Bool))))):Nat->Int×(Ars (List (Int×Bool)))->Option ((List (List (Int×Bool))))
 |0,_=>none
 |g+1,b =>
  cnd (decide (b.1<a1.fScopes))
   (ncx d.1 e.1 <|
   aob b.2 (Int.toNat d.1) fun h =>
   aup b.2 h b.1 true fun j =>
   (Ox n a1 a0 e d f c g) ((aA .i64 (b.1+1)),j))
  <| c b.2 f
noncomputable def L5 (n:Nat)(a1:A9)(a0:B8)(c:Nat->(Ars (List (Int×Bool)))->Option ((List (List (Int×Bool))))):Nat->Nat×(Ars (List (Int×Bool)))×(List (Int×Bool))->Option ((List (List (Int×Bool))))
 |0,_=>none
 |g+1,b =>
  nxt b.2.2
   (c b.1 b.2.1)
  <| pck b.2.2 fun d h =>
  reg <| ncx d.1 b.1 <|
  ast b.2.1 (Int.toNat d.1) [] fun j =>
  Ox n a1 a0 b d h
   (fun e f=>(L5 n a1 a0 c g) (b.1,e,f)) n (0,j)
noncomputable def Hj (n:Nat)(a0:B8)(a1:A9):Option ((List (List (Int×Bool)))) :=
 mkm ((a1.fStates.map Aq).length:Int) 8 fun x1 =>
 are 15 <| reg <| L5 n a1 a0
  (fun d b=>fro 15 <| reg <| D5 n a1 a0
  (fun c=>some c) n (true,(aval b))) n (x1,(mkA (List (Int×Bool)) x1),a0.finner)
def Qh (n:Nat)(b:Ap->Option (Ap))(a0:(List AV))(d:(List AV)->Option ((List AV))):Nat->Int×(List AV)->Option ((List AV))
 |0,_=>none
 |e+1,c =>
  cnd (decide (c.1<((a0.map idA).length:Int)))
   (idxD Bp a0 c.1 fun f =>
   bnd (b f) fun g =>
   app c.2 ([(Ao g)]) 88 fun h =>
   (Qh n b a0 d e) ((aA .i64 (c.1+1)),h))
  <| d c.2
def Wt (n:Nat)(b:Ap->Option (Ap))(a0:(List AV)):Option ((List AV)) :=
 Qh n b a0
  (fun c=>some c) n (0,[])
def Gn:Nat->Ap->Option (Ap)
 |0,_=>none
 |n+1,a0 =>
 bnd (Wt n (Gn n) a0.fArgs) fun x1 =>
 some (⟨a0.fOp,x1,a0.fVar,a0.fField,a0.fKind,a0.fValue⟩)
def Oz (n:Nat)(a0:(List AV))(c:(List AV)->Option ((List AV))):Nat->Int×(List AV)->Option ((List AV))
 |0,_=>none
 |d+1,b =>
  cnd (decide (b.1<((a0.map idA).length:Int)))
   (idxD Bp a0 b.1 fun e =>
   bnd (Gn n e) fun f =>
   app b.2 ([(Ao f)]) 88 fun g =>
   (Oz n a0 c d) ((aA .i64 (b.1+1)),g))
  <| c b.2
def W0 (n:Nat)(a0:(List AV)):Option ((List AV)) :=
 Oz n a0
  (fun b=>some b) n (0,[])
def Uc (n:Nat)(a0:Ai):Option (Ai) :=
 bnd (Gn n a0.fCond) fun x1 =>
 bnd (W0 n a0.fChecks) fun x2 =>
 bnd (Ez n a0.fOpens) fun x3 =>
 bnd (Ez n a0.fCloses) fun x4 =>
 bnd (Ez n a0.fInside) fun x5 =>
 bnd (Ez n a0.fLimits) fun x6 =>
 some (⟨a0.fFrom,a0.fTo,a0.fVar,a0.fType,x1,x3,x4,x2,x6,x5⟩)
def Qt (n:Nat)(a0:A9)(x3:(List Int))(c:(List Ai)->Option ((List Ai)×Int)):Nat->Int×(List Ai)->Option ((List Ai)×Int)
 |0,_=>none
 |d+1,b =>
  cnd (decide (b.1<((x3.map aI).length:Int)))
   (idx x3 b.1 fun e =>
   idx a0.fEdges e fun f =>
   bnd (Uc n f) fun g =>
   app b.2 [g] 240 fun h =>
   (Qt n a0 x3 c d) ((aA .i64 (b.1+1)),h))
  <| c b.2
def U6 (n:Nat)(a0:A9)(a1:Int):Option ((List Ai)×Int) :=
 bnd (C1 n a0) fun x1 =>
 cnd (!decide (x1=0))
  (some ([],x1))
 <| bnd (Et n a1 ((a0.fStates.map Aq).length:Int)) fun x2 =>
 cnd (!(x2))
  (some ([],6))
 <| bnd (Tv n a0 a1) fun x3 =>
 Qt n a0 x3
  (fun b=>some (b,0)) n (0,[])
def Ww (n:Nat)(a0:C8)(a1:Int):Option (Bool) :=
 some (decide (a0.fScope=a1))
def Ov (n:Nat)(d:Int)(a0:(List C8))(c:Option (Int)):Nat->Int->Option (Int)
 |0,_=>none
 |e+1,b =>
  cnd (decide (b<((a0.map Bn).length:Int)))
   (idx a0 b fun f =>
   bnd (Ww n f d) fun g =>
   cnd (g)
    (some b)
   <| (Ov n d a0 c e) (aA .i64 (b+1)))
  <| c
def Sv (n:Nat)(a0:(List C8))(b:Int):Option (Int) :=
 Ov n b a0
  (some (-1)) n 0
def Kd (n:Nat)(a0:Ai)(x1:Int)(b:Bool):Option (Int×Bool) :=
 cnd (b)
  (some (0,false))
 <| idx a0.fLimits x1 fun x4 =>
 some (x4.fSpan,true)
def Kj (n:Nat)(a0:Ai)(a1:Int):Option (Int×Bool) :=
 bnd (Sv n a0.fLimits a1) fun x1 =>
 jon (Kd n a0 x1) <|
 reg <| cnd (decide (x1<0))
  (Kd n a0 x1 true)
 <| bnd (Fj n a0.fOpens a1) fun x5 =>
 Kd n a0 x1 x5
def Nc (n:Nat)(a0:(List Ai))(e:Int×Bool×(List (Int×Bool)))(f:(Int×Bool))(g:(List (Int×Bool)))(c:Int->Bool->(List (Int×Bool))->Option (Int×Bool)):Nat->Int×Bool×Int->Option (Int×Bool)
 |0,_=>none
 |d+1,b =>
  cnd (decide (b.2.2<((a0.map Ab).length:Int)))
   (idx a0 b.2.2 fun j =>
   bnd (Kj n j f.1) fun h =>
   reg <| cnd (b.2.1)
    ((Nc n a0 e f g c d) ((max b.1 h.1),h.2,(aA .i64 (b.2.2+1))))
   <| (Nc n a0 e f g c d) ((max b.1 h.1),false,(aA .i64 (b.2.2+1))))
  <| c b.1 b.2.1 g
noncomputable def I5 (n:Nat)(a0:(List Ai))(d:Int->Bool->Option (Int×Bool)):Nat->Int×Bool×(List (Int×Bool))->Option (Int×Bool)
 |0,_=>none
 |f+1,b =>
  nxt b.2.2
   (d b.1 b.2.1)
  <| pck b.2.2 fun h j =>
  reg <| Nc n a0 b h j
   (fun e g c=>reg <| cnd (g)
   (cnd (!(b.2.1))
     ((I5 n a0 d f) (e,true,c))
   <| cnd (decide (e<b.1))
    ((I5 n a0 d f) (e,true,c))
   <| (I5 n a0 d f) (b.1,b.2.1,c))
  <| (I5 n a0 d f) (b.1,b.2.1,c)) n (0,true,0)
noncomputable def Ug (n:Nat)(a0:(List Ai))(a1:(List (Int×Bool))):Option (Int×Bool) :=
 I5 n a0
  (fun b c=>some (b,c)) n (0,false,a1)
noncomputable def I4 (n:Nat)(a0:A9)(x2:B8)(x3:(List (List (Int×Bool))))(c:(List Int)->(List Bool)->Option ((List Int)×(List Bool)×Int)):Nat->Int×(List Int)×(List Bool)->Option ((List Int)×(List Bool)×Int)
 |0,_=>none
 |d+1,b =>
  cnd (decide (b.1<((a0.fStates.map Aq).length:Int)))
   (nat b.1 (b.2.2.map AV.bool).length fun g =>
   stx b.2.2 g (fun s=>true) fun e =>
   reg <| mgv x2.finner b.1 (false:Bool) fun h t =>
   cnd (h)
    (bnd (U6 n a0 b.1) fun j =>
    idx x3 b.1 fun k =>
    bnd (Ug n j.1 k) fun f =>
    nat b.1 (b.2.1.map aI).length fun l =>
    stx b.2.1 l (fun u=>f.1) fun o =>
    nat b.1 (e.map AV.bool).length fun p =>
    stx e p (fun v=>f.2) fun q =>
    (I4 n a0 x2 x3 c d) ((aA .i64 (b.1+1)),o,q))
   <| (I4 n a0 x2 x3 c d) ((aA .i64 (b.1+1)),b.2.1,e))
  <| c b.2.1 b.2.2
noncomputable def Nl (n:Nat)(a0:A9):Option ((List Int)×(List Bool)×Int) :=
 bnd (C1 n a0) fun x1 =>
 cnd (!decide (x1=0))
  (some ([],[],x1))
 <| bnd (I6 n a0) fun x2 =>
 bnd (Hj n x2 a0) fun x3 =>
 mak ((a0.fStates.map Aq).length:Int) 8 (0:Int) fun x4 =>
 mak ((a0.fStates.map Aq).length:Int) 1 (false:Bool) fun x5 =>
 I4 n a0 x2 x3
  (fun b c=>some (b,c,0)) n (0,x4,x5)
noncomputable def R5 (n:Nat)(a1:Int)(x1:(List Int)×(List Bool)×Int)(c:Int->Option (Int×Bool)):Nat->Int×(List (Int×Bool))->Option (Int×Bool)
 |0,_=>none
 |d+1,b =>
  nxt b.2
   (c b.1)
  <| pck b.2 fun e f =>
  reg <| idx x1.2.1 e.1 fun g =>
  cnd (!(g))
   (some (0,false))
  <| idx x1.1 e.1 fun h =>
  (R5 n a1 x1 c d) ((max b.1 (aA .i64 (a1*(aA .i64 (h+1))))),f)
noncomputable def Gq (n:Nat)(a0:A9)(a1:Int):Option (Int×Bool) :=
 bnd (Nl n a0) fun x1 =>
 bnd (I6 n a0) fun x2 =>
 R5 n a1 x1
  (fun b=>some (b,true)) n (0,x2.finner)
structure B0 where
 ftypes:(List Ah)
 fa:A9
deriving Inhabited
def Tz (n:Nat)(a0:Ap)(m0:B16):Option (Int×B16) :=
 bnd (Rl n a0.fOp) fun x1 =>
 cnd (x1.1)
  (cnd (decide (0<=a0.fVar))
    (cnd (decide (a0.fVar<16))
      (natc a0.fVar 0
        (some (0,(true,m0.2.1,m0.2.2.1,m0.2.2.2.1,m0.2.2.2.2.1,m0.2.2.2.2.2.1,m0.2.2.2.2.2.2.1,m0.2.2.2.2.2.2.2.1,m0.2.2.2.2.2.2.2.2.1,m0.2.2.2.2.2.2.2.2.2.1,m0.2.2.2.2.2.2.2.2.2.2.1,m0.2.2.2.2.2.2.2.2.2.2.2.1,m0.2.2.2.2.2.2.2.2.2.2.2.2.1,m0.2.2.2.2.2.2.2.2.2.2.2.2.2.1,m0.2.2.2.2.2.2.2.2.2.2.2.2.2.2.1,m0.2.2.2.2.2.2.2.2.2.2.2.2.2.2.2)))
      <| natc a0.fVar 1
       (some (0,(m0.1,true,m0.2.2.1,m0.2.2.2.1,m0.2.2.2.2.1,m0.2.2.2.2.2.1,m0.2.2.2.2.2.2.1,m0.2.2.2.2.2.2.2.1,m0.2.2.2.2.2.2.2.2.1,m0.2.2.2.2.2.2.2.2.2.1,m0.2.2.2.2.2.2.2.2.2.2.1,m0.2.2.2.2.2.2.2.2.2.2.2.1,m0.2.2.2.2.2.2.2.2.2.2.2.2.1,m0.2.2.2.2.2.2.2.2.2.2.2.2.2.1,m0.2.2.2.2.2.2.2.2.2.2.2.2.2.2.1,m0.2.2.2.2.2.2.2.2.2.2.2.2.2.2.2)))
      <| natc a0.fVar 2
       (some (0,(m0.1,m0.2.1,true,m0.2.2.2.1,m0.2.2.2.2.1,m0.2.2.2.2.2.1,m0.2.2.2.2.2.2.1,m0.2.2.2.2.2.2.2.1,m0.2.2.2.2.2.2.2.2.1,m0.2.2.2.2.2.2.2.2.2.1,m0.2.2.2.2.2.2.2.2.2.2.1,m0.2.2.2.2.2.2.2.2.2.2.2.1,m0.2.2.2.2.2.2.2.2.2.2.2.2.1,m0.2.2.2.2.2.2.2.2.2.2.2.2.2.1,m0.2.2.2.2.2.2.2.2.2.2.2.2.2.2.1,m0.2.2.2.2.2.2.2.2.2.2.2.2.2.2.2)))
      <| natc a0.fVar 3
       (some (0,(m0.1,m0.2.1,m0.2.2.1,true,m0.2.2.2.2.1,m0.2.2.2.2.2.1,m0.2.2.2.2.2.2.1,m0.2.2.2.2.2.2.2.1,m0.2.2.2.2.2.2.2.2.1,m0.2.2.2.2.2.2.2.2.2.1,m0.2.2.2.2.2.2.2.2.2.2.1,m0.2.2.2.2.2.2.2.2.2.2.2.1,m0.2.2.2.2.2.2.2.2.2.2.2.2.1,m0.2.2.2.2.2.2.2.2.2.2.2.2.2.1,m0.2.2.2.2.2.2.2.2.2.2.2.2.2.2.1,m0.2.2.2.2.2.2.2.2.2.2.2.2.2.2.2)))
      <| natc a0.fVar 4
       (some (0,(m0.1,m0.2.1,m0.2.2.1,m0.2.2.2.1,true,m0.2.2.2.2.2.1,m0.2.2.2.2.2.2.1,m0.2.2.2.2.2.2.2.1,m0.2.2.2.2.2.2.2.2.1,m0.2.2.2.2.2.2.2.2.2.1,m0.2.2.2.2.2.2.2.2.2.2.1,m0.2.2.2.2.2.2.2.2.2.2.2.1,m0.2.2.2.2.2.2.2.2.2.2.2.2.1,m0.2.2.2.2.2.2.2.2.2.2.2.2.2.1,m0.2.2.2.2.2.2.2.2.2.2.2.2.2.2.1,m0.2.2.2.2.2.2.2.2.2.2.2.2.2.2.2)))
      <| natc a0.fVar 5
       (some (0,(m0.1,m0.2.1,m0.2.2.1,m0.2.2.2.1,m0.2.2.2.2.1,true,m0.2.2.2.2.2.2.1,m0.2.2.2.2.2.2.2.1,m0.2.2.2.2.2.2.2.2.1,m0.2.2.2.2.2.2.2.2.2.1,m0.2.2.2.2.2.2.2.2.2.2.1,m0.2.2.2.2.2.2.2.2.2.2.2.1,m0.2.2.2.2.2.2.2.2.2.2.2.2.1,m0.2.2.2.2.2.2.2.2.2.2.2.2.2.1,m0.2.2.2.2.2.2.2.2.2.2.2.2.2.2.1,m0.2.2.2.2.2.2.2.2.2.2.2.2.2.2.2)))
      <| natc a0.fVar 6
       (some (0,(m0.1,m0.2.1,m0.2.2.1,m0.2.2.2.1,m0.2.2.2.2.1,m0.2.2.2.2.2.1,true,m0.2.2.2.2.2.2.2.1,m0.2.2.2.2.2.2.2.2.1,m0.2.2.2.2.2.2.2.2.2.1,m0.2.2.2.2.2.2.2.2.2.2.1,m0.2.2.2.2.2.2.2.2.2.2.2.1,m0.2.2.2.2.2.2.2.2.2.2.2.2.1,m0.2.2.2.2.2.2.2.2.2.2.2.2.2.1,m0.2.2.2.2.2.2.2.2.2.2.2.2.2.2.1,m0.2.2.2.2.2.2.2.2.2.2.2.2.2.2.2)))
      <| natc a0.fVar 7
       (some (0,(m0.1,m0.2.1,m0.2.2.1,m0.2.2.2.1,m0.2.2.2.2.1,m0.2.2.2.2.2.1,m0.2.2.2.2.2.2.1,true,m0.2.2.2.2.2.2.2.2.1,m0.2.2.2.2.2.2.2.2.2.1,m0.2.2.2.2.2.2.2.2.2.2.1,m0.2.2.2.2.2.2.2.2.2.2.2.1,m0.2.2.2.2.2.2.2.2.2.2.2.2.1,m0.2.2.2.2.2.2.2.2.2.2.2.2.2.1,m0.2.2.2.2.2.2.2.2.2.2.2.2.2.2.1,m0.2.2.2.2.2.2.2.2.2.2.2.2.2.2.2)))
      <| natc a0.fVar 8
       (some (0,(m0.1,m0.2.1,m0.2.2.1,m0.2.2.2.1,m0.2.2.2.2.1,m0.2.2.2.2.2.1,m0.2.2.2.2.2.2.1,m0.2.2.2.2.2.2.2.1,true,m0.2.2.2.2.2.2.2.2.2.1,m0.2.2.2.2.2.2.2.2.2.2.1,m0.2.2.2.2.2.2.2.2.2.2.2.1,m0.2.2.2.2.2.2.2.2.2.2.2.2.1,m0.2.2.2.2.2.2.2.2.2.2.2.2.2.1,m0.2.2.2.2.2.2.2.2.2.2.2.2.2.2.1,m0.2.2.2.2.2.2.2.2.2.2.2.2.2.2.2)))
      <| natc a0.fVar 9
       (some (0,(m0.1,m0.2.1,m0.2.2.1,m0.2.2.2.1,m0.2.2.2.2.1,m0.2.2.2.2.2.1,m0.2.2.2.2.2.2.1,m0.2.2.2.2.2.2.2.1,m0.2.2.2.2.2.2.2.2.1,true,m0.2.2.2.2.2.2.2.2.2.2.1,m0.2.2.2.2.2.2.2.2.2.2.2.1,m0.2.2.2.2.2.2.2.2.2.2.2.2.1,m0.2.2.2.2.2.2.2.2.2.2.2.2.2.1,m0.2.2.2.2.2.2.2.2.2.2.2.2.2.2.1,m0.2.2.2.2.2.2.2.2.2.2.2.2.2.2.2)))
      <| natc a0.fVar 10
       (some (0,(m0.1,m0.2.1,m0.2.2.1,m0.2.2.2.1,m0.2.2.2.2.1,m0.2.2.2.2.2.1,m0.2.2.2.2.2.2.1,m0.2.2.2.2.2.2.2.1,m0.2.2.2.2.2.2.2.2.1,m0.2.2.2.2.2.2.2.2.2.1,true,m0.2.2.2.2.2.2.2.2.2.2.2.1,m0.2.2.2.2.2.2.2.2.2.2.2.2.1,m0.2.2.2.2.2.2.2.2.2.2.2.2.2.1,m0.2.2.2.2.2.2.2.2.2.2.2.2.2.2.1,m0.2.2.2.2.2.2.2.2.2.2.2.2.2.2.2)))
      <| natc a0.fVar 11
       (some (0,(m0.1,m0.2.1,m0.2.2.1,m0.2.2.2.1,m0.2.2.2.2.1,m0.2.2.2.2.2.1,m0.2.2.2.2.2.2.1,m0.2.2.2.2.2.2.2.1,m0.2.2.2.2.2.2.2.2.1,m0.2.2.2.2.2.2.2.2.2.1,m0.2.2.2.2.2.2.2.2.2.2.1,true,m0.2.2.2.2.2.2.2.2.2.2.2.2.1,m0.2.2.2.2.2.2.2.2.2.2.2.2.2.1,m0.2.2.2.2.2.2.2.2.2.2.2.2.2.2.1,m0.2.2.2.2.2.2.2.2.2.2.2.2.2.2.2)))
      <| natc a0.fVar 12
       (some (0,(m0.1,m0.2.1,m0.2.2.1,m0.2.2.2.1,m0.2.2.2.2.1,m0.2.2.2.2.2.1,m0.2.2.2.2.2.2.1,m0.2.2.2.2.2.2.2.1,m0.2.2.2.2.2.2.2.2.1,m0.2.2.2.2.2.2.2.2.2.1,m0.2.2.2.2.2.2.2.2.2.2.1,m0.2.2.2.2.2.2.2.2.2.2.2.1,true,m0.2.2.2.2.2.2.2.2.2.2.2.2.2.1,m0.2.2.2.2.2.2.2.2.2.2.2.2.2.2.1,m0.2.2.2.2.2.2.2.2.2.2.2.2.2.2.2)))
      <| natc a0.fVar 13
       (some (0,(m0.1,m0.2.1,m0.2.2.1,m0.2.2.2.1,m0.2.2.2.2.1,m0.2.2.2.2.2.1,m0.2.2.2.2.2.2.1,m0.2.2.2.2.2.2.2.1,m0.2.2.2.2.2.2.2.2.1,m0.2.2.2.2.2.2.2.2.2.1,m0.2.2.2.2.2.2.2.2.2.2.1,m0.2.2.2.2.2.2.2.2.2.2.2.1,m0.2.2.2.2.2.2.2.2.2.2.2.2.1,true,m0.2.2.2.2.2.2.2.2.2.2.2.2.2.2.1,m0.2.2.2.2.2.2.2.2.2.2.2.2.2.2.2)))
      <| natc a0.fVar 14
       (some (0,(m0.1,m0.2.1,m0.2.2.1,m0.2.2.2.1,m0.2.2.2.2.1,m0.2.2.2.2.2.1,m0.2.2.2.2.2.2.1,m0.2.2.2.2.2.2.2.1,m0.2.2.2.2.2.2.2.2.1,m0.2.2.2.2.2.2.2.2.2.1,m0.2.2.2.2.2.2.2.2.2.2.1,m0.2.2.2.2.2.2.2.2.2.2.2.1,m0.2.2.2.2.2.2.2.2.2.2.2.2.1,m0.2.2.2.2.2.2.2.2.2.2.2.2.2.1,true,m0.2.2.2.2.2.2.2.2.2.2.2.2.2.2.2)))
      <| natc a0.fVar 15
       (some (0,(m0.1,m0.2.1,m0.2.2.1,m0.2.2.2.1,m0.2.2.2.2.1,m0.2.2.2.2.2.1,m0.2.2.2.2.2.2.1,m0.2.2.2.2.2.2.2.1,m0.2.2.2.2.2.2.2.2.1,m0.2.2.2.2.2.2.2.2.2.1,m0.2.2.2.2.2.2.2.2.2.2.1,m0.2.2.2.2.2.2.2.2.2.2.2.1,m0.2.2.2.2.2.2.2.2.2.2.2.2.1,m0.2.2.2.2.2.2.2.2.2.2.2.2.2.1,m0.2.2.2.2.2.2.2.2.2.2.2.2.2.2.1,true)))
      <| none)
    <| some (0,m0))
  <| some (0,m0))
 <| some (0,m0)
def Qr (n:Nat)(d:Ap->B16->Option (Int×B16))(a0:Ap)(e:Bool->Bool->Bool->Bool->Bool->Bool->Bool->Bool->Bool->Bool->Bool->Bool->Bool->Bool->Bool->Bool->Option (Int×B16)):Nat->Int×B16->Option (Int×B16)
 |0,_=>none
 |f+1,b =>
  cnd (decide (b.1<((a0.fArgs.map idA).length:Int)))
   (idxD Bp a0.fArgs b.1 fun g =>
   bndM 24 (d g b.2) fun c =>
   cnd (!decide (c.1=0))
    (some (c.1,c.2))
   <| (Qr n d a0 e f) ((aA .i64 (b.1+1)),c.2.1,c.2.2.1,c.2.2.2.1,c.2.2.2.2.1,c.2.2.2.2.2.1,c.2.2.2.2.2.2.1,c.2.2.2.2.2.2.2.1,c.2.2.2.2.2.2.2.2.1,c.2.2.2.2.2.2.2.2.2.1,c.2.2.2.2.2.2.2.2.2.2.1,c.2.2.2.2.2.2.2.2.2.2.2.1,c.2.2.2.2.2.2.2.2.2.2.2.2.1,c.2.2.2.2.2.2.2.2.2.2.2.2.2.1,c.2.2.2.2.2.2.2.2.2.2.2.2.2.2.1,c.2.2.2.2.2.2.2.2.2.2.2.2.2.2.2.1,c.2.2.2.2.2.2.2.2.2.2.2.2.2.2.2.2))
  <| e b.2.1 b.2.2.1 b.2.2.2.1 b.2.2.2.2.1 b.2.2.2.2.2.1 b.2.2.2.2.2.2.1 b.2.2.2.2.2.2.2.1 b.2.2.2.2.2.2.2.2.1 b.2.2.2.2.2.2.2.2.2.1 b.2.2.2.2.2.2.2.2.2.2.1 b.2.2.2.2.2.2.2.2.2.2.2.1 b.2.2.2.2.2.2.2.2.2.2.2.2.1 b.2.2.2.2.2.2.2.2.2.2.2.2.2.1 b.2.2.2.2.2.2.2.2.2.2.2.2.2.2.1 b.2.2.2.2.2.2.2.2.2.2.2.2.2.2.2.1 b.2.2.2.2.2.2.2.2.2.2.2.2.2.2.2.2
def Kf:Nat->Ap->B16->Option (Int×B16)
 |0,_,_=>none
 |n+1,a0,m0 =>
 bndM 11 (Tz n a0 m0) fun x1 =>
 cnd (!decide (x1.1=0))
  (some (x1.1,x1.2))
 <| Qr n (Kf n) a0
  (fun h j k l o p q s t u b c d e f g=>some (0,(h,j,k,l,o,p,q,s,t,u,b,c,d,e,f,g))) n (0,x1.2.1,x1.2.2.1,x1.2.2.2.1,x1.2.2.2.2.1,x1.2.2.2.2.2.1,x1.2.2.2.2.2.2.1,x1.2.2.2.2.2.2.2.1,x1.2.2.2.2.2.2.2.2.1,x1.2.2.2.2.2.2.2.2.2.1,x1.2.2.2.2.2.2.2.2.2.2.1,x1.2.2.2.2.2.2.2.2.2.2.2.1,x1.2.2.2.2.2.2.2.2.2.2.2.2.1,x1.2.2.2.2.2.2.2.2.2.2.2.2.2.1,x1.2.2.2.2.2.2.2.2.2.2.2.2.2.2.1,x1.2.2.2.2.2.2.2.2.2.2.2.2.2.2.2.1,x1.2.2.2.2.2.2.2.2.2.2.2.2.2.2.2.2)
def Bb (n:Nat)(x1:Int×B16)(c:(List Int)->Option ((List Int))):Nat->Int×(List Int)->Option ((List Int))
 |0,_=>none
 |d+1,b =>
  cnd (decide (b.1<16))
   (natc b.1 0
     (reg <| cnd (x1.2.1)
     (app b.2 [b.1] 8 fun e =>
     (Bb n x1 c d) ((aA .i64 (b.1+1)),e))
   <| (Bb n x1 c d) ((aA .i64 (b.1+1)),b.2))
   <| natc b.1 1
    (reg <| cnd (x1.2.2.1)
    (app b.2 [b.1] 8 fun f =>
    (Bb n x1 c d) ((aA .i64 (b.1+1)),f))
   <| (Bb n x1 c d) ((aA .i64 (b.1+1)),b.2))
   <| natc b.1 2
    (reg <| cnd (x1.2.2.2.1)
    (app b.2 [b.1] 8 fun g =>
    (Bb n x1 c d) ((aA .i64 (b.1+1)),g))
   <| (Bb n x1 c d) ((aA .i64 (b.1+1)),b.2))
   <| natc b.1 3
    (reg <| cnd (x1.2.2.2.2.1)
    (app b.2 [b.1] 8 fun h =>
    (Bb n x1 c d) ((aA .i64 (b.1+1)),h))
   <| (Bb n x1 c d) ((aA .i64 (b.1+1)),b.2))
   <| natc b.1 4
    (reg <| cnd (x1.2.2.2.2.2.1)
    (app b.2 [b.1] 8 fun j =>
    (Bb n x1 c d) ((aA .i64 (b.1+1)),j))
   <| (Bb n x1 c d) ((aA .i64 (b.1+1)),b.2))
   <| natc b.1 5
    (reg <| cnd (x1.2.2.2.2.2.2.1)
    (app b.2 [b.1] 8 fun k =>
    (Bb n x1 c d) ((aA .i64 (b.1+1)),k))
   <| (Bb n x1 c d) ((aA .i64 (b.1+1)),b.2))
   <| natc b.1 6
    (reg <| cnd (x1.2.2.2.2.2.2.2.1)
    (app b.2 [b.1] 8 fun l =>
    (Bb n x1 c d) ((aA .i64 (b.1+1)),l))
   <| (Bb n x1 c d) ((aA .i64 (b.1+1)),b.2))
   <| natc b.1 7
    (reg <| cnd (x1.2.2.2.2.2.2.2.2.1)
    (app b.2 [b.1] 8 fun o =>
    (Bb n x1 c d) ((aA .i64 (b.1+1)),o))
   <| (Bb n x1 c d) ((aA .i64 (b.1+1)),b.2))
   <| natc b.1 8
    (reg <| cnd (x1.2.2.2.2.2.2.2.2.2.1)
    (app b.2 [b.1] 8 fun p =>
    (Bb n x1 c d) ((aA .i64 (b.1+1)),p))
   <| (Bb n x1 c d) ((aA .i64 (b.1+1)),b.2))
   <| natc b.1 9
    (reg <| cnd (x1.2.2.2.2.2.2.2.2.2.2.1)
    (app b.2 [b.1] 8 fun q =>
    (Bb n x1 c d) ((aA .i64 (b.1+1)),q))
   <| (Bb n x1 c d) ((aA .i64 (b.1+1)),b.2))
   <| natc b.1 10
    (reg <| cnd (x1.2.2.2.2.2.2.2.2.2.2.2.1)
    (app b.2 [b.1] 8 fun s =>
    (Bb n x1 c d) ((aA .i64 (b.1+1)),s))
   <| (Bb n x1 c d) ((aA .i64 (b.1+1)),b.2))
   <| natc b.1 11
    (reg <| cnd (x1.2.2.2.2.2.2.2.2.2.2.2.2.1)
    (app b.2 [b.1] 8 fun t =>
    (Bb n x1 c d) ((aA .i64 (b.1+1)),t))
   <| (Bb n x1 c d) ((aA .i64 (b.1+1)),b.2))
   <| natc b.1 12
    (reg <| cnd (x1.2.2.2.2.2.2.2.2.2.2.2.2.2.1)
    (app b.2 [b.1] 8 fun u =>
    (Bb n x1 c d) ((aA .i64 (b.1+1)),u))
   <| (Bb n x1 c d) ((aA .i64 (b.1+1)),b.2))
   <| natc b.1 13
    (reg <| cnd (x1.2.2.2.2.2.2.2.2.2.2.2.2.2.2.1)
    (app b.2 [b.1] 8 fun v =>
    (Bb n x1 c d) ((aA .i64 (b.1+1)),v))
   <| (Bb n x1 c d) ((aA .i64 (b.1+1)),b.2))
   <| natc b.1 14
    (reg <| cnd (x1.2.2.2.2.2.2.2.2.2.2.2.2.2.2.2.1)
    (app b.2 [b.1] 8 fun w =>
    (Bb n x1 c d) ((aA .i64 (b.1+1)),w))
   <| (Bb n x1 c d) ((aA .i64 (b.1+1)),b.2))
   <| natc b.1 15
    (reg <| cnd (x1.2.2.2.2.2.2.2.2.2.2.2.2.2.2.2.2)
    (app b.2 [b.1] 8 fun y =>
    (Bb n x1 c d) ((aA .i64 (b.1+1)),y))
   <| (Bb n x1 c d) ((aA .i64 (b.1+1)),b.2))
   <| none)
  <| c b.2
def U9 (n:Nat)(a0:Ap):Option ((List Int)) :=
 bndM 9 (Kf n a0 (false,false,false,false,false,false,false,false,false,false,false,false,false,false,false,false)) fun x1 =>
 Bb n x1
  (fun b=>some b) n (0,[])
def Kz (n:Nat)(a1:Int)(a0f2:Aw)(a0f1:Int)(a0f0:B5)(b:Bool):Option ((List Aw)) :=
 cnd (b)
  (some [])
 <| idx a0f0.fVars a1 fun x2 =>
 some x2
def Pp (n:Nat)(a0f0:B5)(a0f1:Int)(a0f2:Aw)(a1:Int):Option ((List Aw)) :=
 jon (Kz n a1 a0f2 a0f1 a0f0) <|
 reg <| cnd (decide (a1<0))
  (Kz n a1 a0f2 a0f1 a0f0 true)
 <| Kz n a1 a0f2 a0f1 a0f0 (decide ((((List.map (fun q=>AV.sl 5 (List.map Aj q)) (a0f0.fVars)).length:Nat):Int)<=a1))
def Nn (n:Nat)(a0:Aw)(a1:Int):Option (A6×Int) :=
 cnd (decide (((a0.fValues.map Ac).length:Int)<=a1))
  (some (⟨0,0,ByteArray.empty⟩,6))
 <| idx a0.fValues a1 fun x1 =>
 some (x1,0)
def Oy (n:Nat)(a1:Ap)(x1:(List Aw))(c:(List A6)->Option (A6×Int)):Nat->Int×(List A6)->Option (A6×Int)
 |0,_=>none
 |e+1,b =>
  cnd (decide (b.1<((x1.map Aj).length:Int)))
   (idx x1 b.1 fun f =>
   bnd (Nn n f a1.fField) fun d =>
   cnd (!decide (d.2=0))
    (some (⟨0,0,ByteArray.empty⟩,d.2))
   <| app b.2 [d.1] 32 fun g =>
   (Oy n a1 x1 c e) ((aA .i64 (b.1+1)),g))
  <| c b.2
def Vz (n:Nat)(a0f0:B5)(a0f1:Int)(a0f2:Aw)(a1:Ap):Option (A6×Int) :=
 bnd (Pp n (⟨a0f0.fVars⟩:B5) a0f1 a0f2 a1.fVar) fun x1 =>
 Oy n a1 x1
  (fun b=>bnd (Ri n a1.fKind b a1.fValue) fun c =>
 some (c.1,c.2)) n (0,[])
def Lh (n:Nat)(x9:A6×Int)(b:Int):Option (A6×Int) :=
 cnd (!decide (b=0))
  (some (⟨0,0,ByteArray.empty⟩,b))
 <| some (x9.1,0)
def Li (n:Nat)(a1:Ap)(b:Int×Int×Int×Int×(List A6)):Option (A6×Int) :=
 cnd (decide (a1.fOp=2))
  (some (⟨0,b.2.2.2.1,ByteArray.empty⟩,0))
 <| bnd (Nn n (⟨b.1,b.2.1,b.2.2.1,b.2.2.2.1,b.2.2.2.2⟩:Aw) a1.fField) fun x9 =>
 jon (Lh n x9) <|
 reg <| cnd (decide (x9.2=0))
  (bnd (Gs n x9.1) fun c =>
  Lh n x9 c)
 <| Lh n x9 x9.2
def Q7 (n:Nat)(a0f0:B5)(a0f1:Int)(a0f2:Aw)(a1:Ap):Option (A6×Int) :=
 bnd (Pp n (⟨a0f0.fVars⟩:B5) a0f1 a0f2 a1.fVar) fun x1 =>
 cnd (decide (a1.fOp=0))
  (some (a1.fValue,0))
 <| cnd (decide (a1.fOp=3))
  (some (⟨0,((x1.map Aj).length:Int),ByteArray.empty⟩,0))
 <| cnd (decide (a1.fOp=4))
  (bnd (Vz n (⟨a0f0.fVars⟩:B5) a0f1 a0f2 a1) fun x2 =>
  some (x2.1,x2.2))
 <| jon (Li n a1) <|
 reg <| cnd (!decide (a1.fVar=a0f1))
  (cnd (decide (((x1.map Aj).length:Int)=0))
    (some (⟨0,0,ByteArray.empty⟩,10))
  <| idx x1 (aA .i64 (((x1.map Aj).length:Int)-1)) fun b =>
  Li n a1 (b.fSource,b.fSeq,b.fType,b.fTime,b.fValues))
 <| Li n a1 (a0f2.fSource,a0f2.fSeq,a0f2.fType,a0f2.fTime,a0f2.fValues)
def K7 (n:Nat)(a1:(List Int))(a0:Int)(c:Int)(b:Int->Option (Int))(d:Int)(e:Bool):Option (Int) :=
 cnd (e)
  (cnd (!(decide (d=1)))
    (some 9)
  <| b (aA .i64 (c+1)))
 <| reg <| cnd (decide (a0=9))
  (idx a1 0 fun f =>
  cnd (!(decide (d=f)))
   (some 9)
  <| b (aA .i64 (c+1)))
 <| b (aA .i64 (c+1))
def I1 (n:Nat)(a1:(List Int))(a0:Int)(c:Int)(b:Int->Option (Int))(d:Int)(e:Bool):Option (Int) :=
 cnd (e)
  (cnd (!(decide (d=0)))
    (some 9)
  <| b (aA .i64 (c+1)))
 <| jon (K7 n a1 a0 c b d) <|
 reg <| cnd (decide (a0=10))
  (K7 n a1 a0 c b d (decide (a0=10)))
 <| reg <| cnd (decide (a0=11))
  (K7 n a1 a0 c b d (decide (a0=11)))
 <| K7 n a1 a0 c b d (decide (a0=12))
def Gm (n:Nat)(a1:(List Int))(a0:Int)(b:Option (Int)):Nat->Int->Option (Int)
 |0,_=>none
 |d+1,c =>
  cnd (decide (c<((a1.map aI).length:Int)))
   (idx a1 c fun e =>
   jon (I1 n a1 a0 c (Gm n a1 a0 b d) e) <|
   reg <| cnd (decide (a0=5))
    (I1 n a1 a0 c (Gm n a1 a0 b d) e (decide (a0=5)))
   <| reg <| cnd (decide (a0=6))
    (I1 n a1 a0 c (Gm n a1 a0 b d) e (decide (a0=6)))
   <| reg <| cnd (decide (a0=7))
    (I1 n a1 a0 c (Gm n a1 a0 b d) e (decide (a0=7)))
   <| I1 n a1 a0 c (Gm n a1 a0 b d) e (decide (a0=8)))
  <| b
def X0 (n:Nat)(a0:Int)(a1:(List Int)):Option (Int) :=
 Gm n a1 a0
  (some 0) n 0
def X7 (n:Nat)(a0:Bool):Option (A6) :=
 cnd (a0)
  (some (⟨1,1,ByteArray.empty⟩))
 <| some (⟨1,0,ByteArray.empty⟩)
def Dz (n:Nat)(a0:Bool):Option (A6) :=
 bnd (X7 n a0) fun x1 =>
 some x1
def Tt (n:Nat)(a0:Int):Option (A6) :=
 some (⟨0,a0,ByteArray.empty⟩)
def Ts (n:Nat)(a0:Int)(a1:Int):Option (A6) :=
 bnd (Tt n (aA .i64 (a0+a1))) fun x1 =>
 some x1
def Tq (n:Nat)(a0:Int)(a1:Int):Option (A6) :=
 bnd (Tt n (aA .i64 (a0-a1))) fun x1 =>
 some x1
def Tp (n:Nat)(a0:Int)(a1:Int):Option (A6) :=
 bnd (Dz n (decide (a0<a1))) fun x1 =>
 some x1
def Tn (n:Nat)(a0:Int)(a1:Int):Option (A6) :=
 bnd (Dz n (decide (a0<=a1))) fun x1 =>
 some x1
def Ml (n:Nat)(b:Int×Int×ByteArray):Option (A6) :=
 some (⟨b.1,b.2.1,b.2.2⟩)
def Tm (n:Nat)(a0:Int)(a1:Int):Option (A6) :=
 jon (Ml n) <|
 reg <| cnd (decide (a0=1))
  (bnd (Dz n (decide (a1=1))) fun x6 =>
  Ml n (x6.fKind,x6.fNum,x6.fText))
 <| bnd (Dz n false) fun x7 =>
 Ml n (x7.fKind,x7.fNum,x7.fText)
def Mj (n:Nat)(b:Int×Int×ByteArray):Option (A6) :=
 some (⟨b.1,b.2.1,b.2.2⟩)
def Tl (n:Nat)(a0:Int)(a1:Int):Option (A6) :=
 jon (Mj n) <|
 reg <| cnd (decide (a0=1))
  (bnd (Dz n true) fun x6 =>
  Mj n (x6.fKind,x6.fNum,x6.fText))
 <| bnd (Dz n (decide (a1=1))) fun x7 =>
 Mj n (x7.fKind,x7.fNum,x7.fText)
def N5 (n:Nat)(a0:Int)(a1:Int):Option (A6) :=
 bnd (Dz n (!decide (a0=1))) fun x1 =>
 some x1
def Pc (n:Nat)(b:B5->Int->Aw->Ap->Option (A6×Int))(a1:Ap)(a0f2:Aw)(a0f1:Int)(a0f0:B5)(d:(List A6)->(List Int)->Option (A6×Int)):Nat->Int×(List A6)×(List Int)->Option (A6×Int)
 |0,_=>none
 |f+1,c =>
  cnd (decide (c.1<((a1.fArgs.map idA).length:Int)))
   (idxD Bp a1.fArgs c.1 fun g =>
   bnd (b (⟨a0f0.fVars⟩:B5) a0f1 a0f2 g) fun e =>
   cnd (!decide (e.2=0))
    (some (⟨0,0,ByteArray.empty⟩,e.2))
   <| app c.2.1 [e.1] 32 fun h =>
   app c.2.2 [e.1.fKind] 8 fun j =>
   (Pc n b a1 a0f2 a0f1 a0f0 d f) ((aA .i64 (c.1+1)),h,j))
  <| d c.2.1 c.2.2
def Hn:Nat->B5->Int->Aw->Ap->Option (A6×Int)
 |0,_,_,_,_=>none
 |n+1,a0f0,a0f1,a0f2,a1 =>
 cnd (decide (((a1.fArgs.map idA).length:Int)=0))
  (bnd (Q7 n (⟨a0f0.fVars⟩:B5) a0f1 a0f2 a1) fun x1 =>
  some (x1.1,x1.2))
 <| Pc n (Hn n) a1 a0f2 a0f1 a0f0
  (fun b c=>bnd (X0 n a1.fOp c) fun f =>
 cnd (!decide (f=0))
  (some (⟨0,0,ByteArray.empty⟩,f))
 <| cnd (decide (a1.fOp=9))
  (nat 0 (b.map Ac).length fun z =>
  elt b z fun d =>
  nat 1 (b.map Ac).length fun ba =>
  elt b ba fun e =>
  bnd (Dz n (decide (d.fKind=e.fKind) && (decide (d.fNum=e.fNum) && ((d.fText.toList == e.fText.toList) && true)))) fun bb =>
  some (bb,0))
 <| natc a1.fOp 5
  (nat 0 (b.map Ac).length fun g =>
 ltx g (b.map Ac).length <| elt b g fun bc =>
 nat (aA .i64 (((b.map Ac).length:Int)-1)) (b.map Ac).length fun h =>
 ltx h (b.map Ac).length <| elt b h fun bd =>
 bnd (Ts n bc.fNum bd.fNum) fun be =>
 some (be,0))
 <| natc a1.fOp 6
  (nat 0 (b.map Ac).length fun j =>
 ltx j (b.map Ac).length <| elt b j fun bf =>
 nat (aA .i64 (((b.map Ac).length:Int)-1)) (b.map Ac).length fun k =>
 ltx k (b.map Ac).length <| elt b k fun bg =>
 bnd (Tq n bf.fNum bg.fNum) fun bh =>
 some (bh,0))
 <| natc a1.fOp 7
  (nat 0 (b.map Ac).length fun l =>
 ltx l (b.map Ac).length <| elt b l fun bi =>
 nat (aA .i64 (((b.map Ac).length:Int)-1)) (b.map Ac).length fun o =>
 ltx o (b.map Ac).length <| elt b o fun bj =>
 bnd (Tp n bi.fNum bj.fNum) fun bk =>
 some (bk,0))
 <| natc a1.fOp 8
  (nat 0 (b.map Ac).length fun p =>
 ltx p (b.map Ac).length <| elt b p fun bl =>
 nat (aA .i64 (((b.map Ac).length:Int)-1)) (b.map Ac).length fun q =>
 ltx q (b.map Ac).length <| elt b q fun bm =>
 bnd (Tn n bl.fNum bm.fNum) fun bn =>
 some (bn,0))
 <| natc a1.fOp 10
  (nat 0 (b.map Ac).length fun s =>
 ltx s (b.map Ac).length <| elt b s fun bo =>
 nat (aA .i64 (((b.map Ac).length:Int)-1)) (b.map Ac).length fun t =>
 ltx t (b.map Ac).length <| elt b t fun bp =>
 bnd (Tm n bo.fNum bp.fNum) fun bq =>
 some (bq,0))
 <| natc a1.fOp 11
  (nat 0 (b.map Ac).length fun u =>
 ltx u (b.map Ac).length <| elt b u fun br =>
 nat (aA .i64 (((b.map Ac).length:Int)-1)) (b.map Ac).length fun v =>
 ltx v (b.map Ac).length <| elt b v fun bs =>
 bnd (Tl n br.fNum bs.fNum) fun bt =>
 some (bt,0))
 <| natc a1.fOp 12
  (nat 0 (b.map Ac).length fun w =>
 ltx w (b.map Ac).length <| elt b w fun bu =>
 nat (aA .i64 (((b.map Ac).length:Int)-1)) (b.map Ac).length fun y =>
 ltx y (b.map Ac).length <| elt b y fun bv =>
 bnd (N5 n bu.fNum bv.fNum) fun bw =>
 some (bw,0))
 <| none) n (0,[],[])
def Xa (n:Nat)(a0:Ap)(a1:B5)(a2:Int)(a3:Aw):Option (A6×Int) :=
 bnd (I8 n a0) fun x1 =>
 cnd (!decide (x1=0))
  (some (⟨0,0,ByteArray.empty⟩,x1))
 <| bnd (Hn n (⟨a1.fVars⟩:B5) a2 a3 a0) fun x2 =>
 some (x2.1,x2.2)
def Nf (n:Nat)(b:Bool):Option (Bool) :=
 some b
def Uj (n:Nat)(a0:Ap)(a1:B5)(a2:Int)(a3:Aw):Option (Bool) :=
 bnd (Xa n a0 (⟨a1.fVars⟩:B5) a2 a3) fun x1 =>
 jon (Nf n) <|
 reg <| cnd (decide (x1.2=0))
  (bnd (Dz n true) fun x4 =>
  Nf n (decide (x1.1.fKind=x4.fKind) && (decide (x1.1.fNum=x4.fNum) && ((x1.1.fText.toList == x4.fText.toList) && true))))
 <| Nf n false
def K3 (n:Nat)(b:Bool):Option (Bool) :=
 some b
def Ke (n:Nat)(a0:Ap):Option (Bool) :=
 jon (K3 n) <|
 reg <| bnd (U9 n a0) fun x4 =>
 cnd (decide (((x4.map aI).length:Int)=0))
  (bnd (Uj n a0 (⟨[]⟩:B5) (-1) (⟨0,0,0,0,[]⟩:Aw)) fun x5 =>
  K3 n x5)
 <| K3 n false
def Lg (n:Nat)(b:Bool):Option (Bool) :=
 some b
def T4 (n:Nat)(a0:B7)(a1:Ai):Option (Bool) :=
 jon (Lg n) <|
 reg <| cnd (decide (a0.fType=a1.fType))
  (bnd (Fj n a1.fInside a0.fScope) fun x3 =>
  Lg n !(x3))
 <| Lg n false
def Iz (n:Nat)(d:Ai)(a0:(List B7))(c:Option (Int)):Nat->Int->Option (Int)
 |0,_=>none
 |e+1,b =>
  cnd (decide (b<((a0.map B1).length:Int)))
   (idx a0 b fun f =>
   bnd (T4 n f d) fun g =>
   cnd (g)
    (some b)
   <| (Iz n d a0 c e) (aA .i64 (b+1)))
  <| c
def Su (n:Nat)(a0:(List B7))(b:Ai):Option (Int) :=
 Iz n b a0
  (some (-1)) n 0
def Ow (n:Nat)(a0:(List B7))(b:Ai):Option (Bool) :=
 bnd (Su n a0 b) fun x1 =>
 some (decide (0<=x1))
def Jk (n:Nat)(a1:Ai)(a0:B0)(b:Option (Bool)):Nat->Int->Option (Bool)
 |0,_=>none
 |d+1,c =>
  cnd (decide (c<((a1.fLimits.map Bn).length:Int)))
   (idx a1.fLimits c fun e =>
   bnd (Fj n a1.fOpens e.fScope) fun f =>
   cnd (!(f))
    (some false)
   <| (Jk n a1 a0 b d) (aA .i64 (c+1)))
  <| b
def Jl (n:Nat)(a1:Ai)(a0:B0)(b:Option (Bool)):Nat->Int->Option (Bool)
 |0,_=>none
 |d+1,c =>
  cnd (decide (c<((a1.fChecks.map idA).length:Int)))
   (idxD Bp a1.fChecks c fun e =>
   bnd (Ke n e) fun f =>
   cnd (!(f))
    (some false)
   <| (Jl n a1 a0 b d) (aA .i64 (c+1)))
  <| b
def Gg (n:Nat)(a1:Ai)(a0:B0)(b:Bool):Option (Bool) :=
 cnd (b)
  (some false)
 <| Jl n a1 a0
  (Jk n a1 a0
  (idx a0.fa.fStates a1.fFrom fun c =>
 bnd (Ow n c.fGuards a1) fun d =>
 some !(d)) n 0) n 0
def Gk (n:Nat)(a0:B0)(a1:Ai):Option (Bool) :=
 jon (Gg n a1 a0) <|
 reg <| cnd (decide (((a0.ftypes.map Al).length:Int)<=a1.fType))
  (Gg n a1 a0 true)
 <| bnd (Ke n a1.fCond) fun b =>
 Gg n a1 a0 !(b)
def W8 (n:Nat)(a0:Ai):Option (Bool) :=
 some true
def Jb (n:Nat)(a0:B0)(c:(List Ai)->Option ((List Ai))):Nat->Int×(List Ai)->Option ((List Ai))
 |0,_=>none
 |d+1,b =>
  cnd (decide (b.1<((a0.fa.fEdges.map Ab).length:Int)))
   (idx a0.fa.fEdges b.1 fun e =>
   reg <| bnd (Gk n a0 e) fun f =>
   cnd (f)
    (bnd (W8 n e) fun g =>
    cnd (g)
     (app b.2 [e] 240 fun h =>
     (Jb n a0 c d) ((aA .i64 (b.1+1)),h))
    <| (Jb n a0 c d) ((aA .i64 (b.1+1)),b.2))
   <| (Jb n a0 c d) ((aA .i64 (b.1+1)),b.2))
  <| c b.2
def T8 (n:Nat)(a0:B0):Option ((List Ai)) :=
 Jb n a0
  (fun b=>some b) n (0,[])
def Fh (n:Nat)(d:(List Ai)×Bool×(List (Int×Bool)))(c:Bool->(List (Int×Bool))->Option ((List (Int×Bool)))):Nat->Bool×Int×(List (Int×Bool))->Option ((List (Int×Bool)))
 |0,_=>none
 |e+1,b =>
  cnd (decide (b.2.1<((d.1.map Ab).length:Int)))
   (idx d.1 b.2.1 fun f =>
   reg <| mgt b.2.2 f.fTo (false:Bool) fun g k =>
   cnd (g)
    (mgt b.2.2 f.fFrom (false:Bool) fun h l =>
    cnd (!(h))
     (mst b.2.2 f.fFrom true fun j =>
     (Fh n d c e) (true,(aA .i64 (b.2.1+1)),j))
    <| (Fh n d c e) (b.1,(aA .i64 (b.2.1+1)),b.2.2))
   <| (Fh n d c e) (b.1,(aA .i64 (b.2.1+1)),b.2.2))
  <| c b.1 b.2.2
def Gf (n:Nat)(c:(List (Int×Bool))->Option ((List (Int×Bool)))):Nat->(List Ai)×Bool×(List (Int×Bool))->Option ((List (Int×Bool)))
 |0,_=>none
 |f+1,b =>
  cnd (b.2.1)
   (Fh n b
     (fun d e=>(Gf n c f) (b.1,d,e)) n (false,0,b.2.2))
  <| c b.2.2
def Er (n:Nat)(a0:B0):Option ((List (Int×Bool))) :=
 bnd (T8 n a0) fun x1 =>
 mst [] (-1) true fun x2 =>
 Gf n
  (fun b=>mde b (-1) fun c =>
 some c) n (x1,true,x2)
def Vp (n:Nat)(a0:B7)(a1:Int):Option (Bool) :=
 some (decide (a0.fType=a1))
def Ou (n:Nat)(d:Int)(a0:(List B7))(c:Option (Int)):Nat->Int->Option (Int)
 |0,_=>none
 |e+1,b =>
  cnd (decide (b<((a0.map B1).length:Int)))
   (idx a0 b fun f =>
   bnd (Vp n f d) fun g =>
   cnd (g)
    (some b)
   <| (Ou n d a0 c e) (aA .i64 (b+1)))
  <| c
def Vx (n:Nat)(a0:(List B7))(b:Int):Option (Int) :=
 Ou n b a0
  (some (-1)) n 0
def Vl (n:Nat)(a0:(List B7))(b:Int):Option (Bool) :=
 bnd (Vx n a0 b) fun x1 =>
 some (decide (0<=x1))
def M9 (n:Nat)(a0:B0)(a1:Int)(a2:Int):Option (Bool) :=
 idx a0.fa.fStates a1 fun x1 =>
 bnd (Vl n x1.fGuards a2) fun x2 =>
 some x2
def Q5 (n:Nat)(a0:Ai)(m0:B0)(m1:Int):Option (Bool×B0×Int) :=
 cnd (decide (0<=a0.fTo))
  (bnd (M9 n m0 0 a0.fType) fun x1 =>
  cnd (!(x1))
   (bnd (M9 n m0 m1 a0.fType) fun x2 =>
   some (!(x2),m0,m1))
  <| some (false,m0,m1))
 <| some (false,m0,m1)
def Iq (n:Nat)(a0:B0)(d:(List Ah)->Int->Int->(List Cb)->(List Ai)->Int->(List Ai)->Option ((List Ai)×B0×Int)):Nat->Int×(List Ah)×Int×Int×(List Cb)×(List Ai)×Int×(List Ai)->Option ((List Ai)×B0×Int)
 |0,_=>none
 |e+1,b =>
  cnd (decide (b.1<((a0.fa.fEdges.map Ab).length:Int)))
   (idx a0.fa.fEdges b.1 fun f =>
   bnd (Gk n a0 f) fun g =>
   cnd (g)
    (bndM 22 (Q5 n f (⟨b.2.1,⟨b.2.2.1,b.2.2.2.1,b.2.2.2.2.1,b.2.2.2.2.2.1⟩⟩:B0) b.2.2.2.2.2.2.1) fun c =>
    cnd (c.1)
     (app b.2.2.2.2.2.2.2 [f] 240 fun h =>
     (Iq n a0 d e) ((aA .i64 (b.1+1)),c.2.1.ftypes,c.2.1.fa.fVars,c.2.1.fa.fScopes,c.2.1.fa.fStates,c.2.1.fa.fEdges,c.2.2,h))
    <| (Iq n a0 d e) ((aA .i64 (b.1+1)),c.2.1.ftypes,c.2.1.fa.fVars,c.2.1.fa.fScopes,c.2.1.fa.fStates,c.2.1.fa.fEdges,c.2.2,b.2.2.2.2.2.2.2))
   <| (Iq n a0 d e) ((aA .i64 (b.1+1)),b.2.1,b.2.2.1,b.2.2.2.1,b.2.2.2.2.1,b.2.2.2.2.2.1,b.2.2.2.2.2.2.1,b.2.2.2.2.2.2.2))
  <| d b.2.1 b.2.2.1 b.2.2.2.1 b.2.2.2.2.1 b.2.2.2.2.2.1 b.2.2.2.2.2.2.1 b.2.2.2.2.2.2.2
def Sh (n:Nat)(a0:B0)(m0:B0)(m1:Int):Option ((List Ai)×B0×Int) :=
 Iq n a0
  (fun b c d e f g h=>frz 7027 <| reg <| some (h,⟨b,⟨c,d,e,f⟩⟩,g)) n (0,m0.ftypes,m0.fa.fVars,m0.fa.fScopes,m0.fa.fStates,m0.fa.fEdges,m1,[])
def J2 (n:Nat)(b:Int->(List Ai)->(List (Int×Bool))->Int->Option ((List Int)×(List Ai)×(List (Int×Bool))×Int))(m0:(List Ai))(a0:Int)(d:(List Ai)->Int->(List (Int×Bool))->Option ((List Int)×(List Ai)×(List (Int×Bool))×Int)):Nat->Int×(List Ai)×Int×(List (Int×Bool))->Option ((List Int)×(List Ai)×(List (Int×Bool))×Int)
 |0,_=>none
 |g+1,c =>
  cnd (decide (c.1<((m0.map Ab).length:Int)))
   (idx m0 c.1 fun f =>
   cnd (!decide (f.fFrom=a0))
    ((J2 n b m0 a0 d g) ((aA .i64 (c.1+1)),c.2.1,c.2.2.1,c.2.2.2))
   <| mgt c.2.2.2 f.fTo (false:Bool) fun k p =>
   cnd (k)
    ((J2 n b m0 a0 d g) ((aA .i64 (c.1+1)),c.2.1,c.2.2.1,c.2.2.2))
   <| cnd (decide (f.fTo=c.2.2.1))
    (bld ([f.fType]:List Int) fun h =>
    nlz h <| some (h,c.2.1,c.2.2.2,c.2.2.1))
   <| mst c.2.2.2 f.fTo true fun l =>
   bndM 39 (b f.fTo c.2.1 l c.2.2.1) fun e =>
   cnd (!(e.1.map aI).isEmpty)
    (nlw 9 <| reg <| bld ([f.fType]:List Int) fun o =>
    app o e.1 8 fun j =>
    nlz j <| some (j,e.2.1,e.2.2.1,e.2.2.2))
   <| (J2 n b m0 a0 d g) ((aA .i64 (c.1+1)),e.2.1,e.2.2.2,e.2.2.1))
  <| d c.2.1 c.2.2.1 c.2.2.2
def Mi:Nat->Int->(List Ai)->(List (Int×Bool))->Int->Option ((List Int)×(List Ai)×(List (Int×Bool))×Int)
 |0,_,_,_,_=>none
 |n+1,a0,m0,m1,m2 =>
 J2 n (Mi n) m0 a0
  (fun b c d=>some ([],b,d,c)) n (0,m0,m2,m1)
def Qq (n:Nat)(a0:B0)(a1:Int):Option ((List Int)) :=
 bndM 10 (Sh n a0 a0 a1) fun x1 =>
 bndM 14 (Mi n 0 x1.1 [] x1.2.2) fun x2 =>
 some x2.1
def Pa (n:Nat)(a1:(List Int))(a0:B0)(g:Int×(List Aw))(f:Int)(d:Ah)(c:Int->(List A6)->Option ((List Aw))):Nat->Int×(List A6)->Option ((List Aw))
 |0,_=>none
 |e+1,b =>
  cnd (decide (b.1<((d.fFields.map C7).length:Int)))
   (idx d.fFields b.1 fun h =>
   app b.2 ([⟨h.fKind,0,ByteArray.empty⟩]) 32 fun j =>
   (Pa n a1 a0 g f d c e) ((aA .i64 (b.1+1)),j))
  <| c f b.2
def Pb (n:Nat)(a1:(List Int))(a0:B0)(c:(List Aw)->Option ((List Aw))):Nat->Int×(List Aw)->Option ((List Aw))
 |0,_=>none
 |f+1,b =>
  cnd (decide (b.1<((a1.map aI).length:Int)))
   (idx a1 b.1 fun g =>
   idx a0.ftypes g fun h =>
   Pa n a1 a0 b g h
    (fun d e=>frz 7039 <| reg <| app b.2 ([⟨0,b.1,d,b.1,e⟩]) 56 fun j =>
   (Pb n a1 a0 c f) ((aA .i64 (b.1+1)),j)) n (0,[]))
  <| c b.2
def T3 (n:Nat)(a0:B0)(a1:(List Int)):Option ((List Aw)) :=
 Pb n a1 a0
  (fun b=>some b) n (0,[])
def K6 (n:Nat)(a1:A9)(a0:(List Ah))(x3:(List (Int×Bool)))(b:Option (C3×Int)):Nat->Int->Option (C3×Int)
 |0,_=>none
 |d+1,c =>
  cnd (decide (c<((a1.fStates.map Aq).length:Int)))
   (mgv x3 c (false:Bool) fun f h =>
   cnd (!(f))
    ((K6 n a1 a0 x3 b d) (aA .i64 (c+1)))
   <| bnd (Qq n (⟨a0,a1⟩:B0) c) fun e =>
   cnd (!(e.map aI).isEmpty)
    (nlw 14 <| reg <| bnd (T3 n (⟨a0,a1⟩:B0) e) fun g =>
    some (⟨2,0,g,((e.map aI).length:Int)⟩,0))
   <| (K6 n a1 a0 x3 b d) (aA .i64 (c+1)))
  <| b
noncomputable def Eg (n:Nat)(a0:(List Ah))(a1:A9)(a2:Int):Option (C3×Int) :=
 bnd (Gp n a0 a1 a2) fun x1 =>
 cnd (!decide (x1=0))
  (some (⟨0,0,[],0⟩,x1))
 <| bnd (Gq n a1 a2) fun x2 =>
 cnd (x2.2)
  (some (⟨1,x2.1,[],0⟩,0))
 <| bnd (Er n (⟨a0,a1⟩:B0)) fun x3 =>
 K6 n a1 a0 x3
  (some (⟨0,0,[],0⟩,0)) n 0
structure Ka where
 fsource:Int
 fseq:Int
deriving DecidableEq,Inhabited
def N8 (x:Ka):AV:=.agg [aI (x.fsource),aI (x.fseq)]
def Zn (n:Nat)(a0:Aw):Option (Bool) :=
 cnd (decide (0<=a0.fTime))
  (cnd (decide (a0.fTime<=1099511627776))
    (cnd (decide (0<=a0.fSource))
      (cnd (decide (a0.fSource<8))
        (cnd (decide (0<=a0.fSeq))
          (some (decide (a0.fSeq<=1099511627776)))
        <| some false)
      <| some false)
    <| some false)
  <| some false)
 <| some false
def Xb (n:Nat)(a0:Aw):Option (Cm) :=
 some (⟨a0.fTime,a0.fSource,a0.fSeq⟩)
def Zq (n:Nat)(a0:Aw)(a1:Aw):Option (Int) :=
 bnd (Xb n a0) fun x1 =>
 bnd (Xb n a1) fun x2 =>
 cnd ((decide (x1.fTime=x2.fTime) && (decide (x1.fSource=x2.fSource) && (decide (x1.fSeq=x2.fSeq) && true))))
  (some 0)
 <| bnd (Ex n a0.fTime a1.fTime) fun x3 =>
 bnd (Ex n a0.fSource a1.fSource) fun x4 =>
 bnd (Ex n a0.fSeq a1.fSeq) fun x5 =>
 bnd (O1 n ([x3,x4,x5])) fun x6 =>
 some x6
def Rk (n:Nat)(a0:Aw):Option (Ka) :=
 some (⟨a0.fSource,a0.fSeq⟩)
def U5 (n:Nat)(a0:(List Aw))(c:Option (Int)):Nat->Int×(List (Ka×Bool))->Option (Int)
 |0,_=>none
 |e+1,b =>
  cnd (decide (b.1<((a0.map Aj).length:Int)))
   (idx a0 b.1 fun d =>
   bnd (Zn n d) fun f =>
   cnd (!(f))
    (some 2)
   <| cnd (decide (0<b.1))
    (idx a0 (aA .i64 (b.1-1)) fun g =>
    bnd (Zq n g d) fun h =>
    cnd (decide (0<=h))
     (some 14)
    <| bnd (Rk n d) fun j =>
    mgt b.2 j (false:Bool) fun k u =>
    cnd (k)
     (some 7)
    <| bnd (Rk n d) fun l =>
    mst b.2 l true fun o =>
    (U5 n a0 c e) ((aA .i64 (b.1+1)),o))
   <| bnd (Rk n d) fun p =>
   mgt b.2 p (false:Bool) fun q v =>
   cnd (q)
    (some 7)
   <| bnd (Rk n d) fun s =>
   mst b.2 s true fun t =>
   (U5 n a0 c e) ((aA .i64 (b.1+1)),t))
  <| c
def Zs (n:Nat)(a0:(List Aw)):Option (Int) :=
 cnd (decide (4096<((a0.map Aj).length:Int)))
  (some 5)
 <| U5 n a0
  (some 0) n (0,[])
structure zwb where
 fa:A9
 fheld:(List (Cm×Aw))
deriving Inhabited
def K8 (n:Nat)(b:Bool):Option (Int) :=
 cnd (b)
  (some 2)
 <| some 0
def R1 (n:Nat)(a0:Aw)(b:Bool):Option (Int) :=
 cnd (b)
  (some 32)
 <| jon (K8 n) <|
 reg <| cnd (decide (a0.fSeq<0))
  (K8 n true)
 <| cnd (decide (1099511627776<a0.fSeq))
  (K8 n true)
 <| cnd (decide (a0.fTime<0))
  (K8 n true)
 <| K8 n (decide (1099511627776<a0.fTime))
def Zp (n:Nat)(a0:Aw):Option (Int) :=
 jon (R1 n a0) <|
 reg <| cnd (decide (a0.fSource<0))
  (R1 n a0 true)
 <| R1 n a0 (decide (8<=a0.fSource))
def Wx (n:Nat)(a1:Aw)(x3:Ah)(c:Option (Int)):Nat->Int->Option (Int)
 |0,_=>none
 |d+1,b =>
  cnd (decide (b<((a1.fValues.map Ac).length:Int)))
   (idx a1.fValues b fun e =>
   bnd (Gs n e) fun f =>
   cnd (!decide (f=0))
    (some f)
   <| idx x3.fFields b fun g =>
   cnd (!decide (e.fKind=g.fKind))
    (some 9)
   <| (Wx n a1 x3 c d) (aA .i64 (b+1)))
  <| c
def R9 (n:Nat)(a1:Aw)(a0:(List Ah))(b:Bool):Option (Int) :=
 cnd (b)
  (some 6)
 <| idx a0 a1.fType fun x3 =>
 cnd (!decide (((a1.fValues.map Ac).length:Int)=((x3.fFields.map C7).length:Int)))
  (some 15)
 <| Wx n a1 x3
  (some 0) n 0
def Zu (n:Nat)(a0:(List Ah))(a1:Aw):Option (Int) :=
 bnd (Zp n a1) fun x1 =>
 cnd (!decide (x1=0))
  (some x1)
 <| jon (R9 n a1 a0) <|
 reg <| cnd (decide (a1.fType<0))
  (R9 n a1 a0 true)
 <| R9 n a1 a0 (decide (((a0.map Al).length:Int)<=a1.fType))
def Zv (n:Nat)(a0:(List Ah))(a1:Aw):Option (Int) :=
 bnd (Fl n a0) fun x1 =>
 cnd (!decide (x1=0))
  (some x1)
 <| bnd (Zu n a0 a1) fun x2 =>
 some x2
def Qx (n:Nat)(b:Bool):Option (Int) :=
 cnd (b)
  (some 2)
 <| some 0
def Qy (n:Nat)(a0:C3)(b:Int):Option (Int) :=
 jon (Qx n) <|
 reg <| cnd (decide (a0.fPeriod<=b))
  (Qx n true)
 <| Qx n (decide (1099511627776<a0.fPeriod))
def Zo (n:Nat)(a0:C3):Option (Int) :=
 jon (Qy n a0) <|
 reg <| cnd (decide (0<((a0.fPrefix.map Aj).length:Int)))
  (idx a0.fPrefix (aA .i64 (((a0.fPrefix.map Aj).length:Int)-1)) fun x5 =>
  idx a0.fPrefix 0 fun x6 =>
  Qy n a0 (aA .i64 (x5.fTime-x6.fTime)))
 <| Qy n a0 0
def Z6 (n:Nat)(a0:Int)(a1:B0)(a2:Int):Option (Bool) :=
 bnd (M9 n a1 a2 a0) fun x1 =>
 some x1
def Vk (n:Nat)(d:Int)(e:B0)(a0:(List Int))(c:Option (Int)):Nat->Int->Option (Int)
 |0,_=>none
 |f+1,b =>
  cnd (decide (b<((a0.map aI).length:Int)))
   (idx a0 b fun g =>
   bnd (Z6 n g e d) fun h =>
   cnd (h)
    (some b)
   <| (Vk n d e a0 c f) (aA .i64 (b+1)))
  <| c
def Z8 (n:Nat)(a0:(List Int))(b:B0)(c:Int):Option (Int) :=
 Vk n c b a0
  (some (-1)) n 0
def Z4 (n:Nat)(a0:(List Int))(b:B0)(c:Int):Option (Bool) :=
 bnd (Z8 n a0 b c) fun x1 =>
 some (decide (0<=x1))
def Vy (n:Nat)(a0:Int)(m0:(List Int))(m1:B0):Option (Bool×(List Int)×B0) :=
 bnd (Z4 n m0 m1 a0) fun x1 =>
 some (!(x1),m0,m1)
def Za (n:Nat)(a0:Ai)(m0:Int)(m1:(List (Int×Bool))):Option (Bool×Int×(List (Int×Bool))) :=
 cnd (decide (0<=a0.fTo))
  (cnd (decide (a0.fType=m0))
    (mgt m1 a0.fFrom (false:Bool) fun x1 x2 =>
    some (x1,m0,m1))
  <| some (false,m0,m1))
 <| some (false,m0,m1)
def Ok (n:Nat)(a0:B0)(c:Int->(List Ai)->(List (Int×Bool))->Option ((List Ai)×Int×(List (Int×Bool)))):Nat->Int×Int×(List Ai)×(List (Int×Bool))->Option ((List Ai)×Int×(List (Int×Bool)))
 |0,_=>none
 |d+1,b =>
  cnd (decide (b.1<((a0.fa.fEdges.map Ab).length:Int)))
   (idx a0.fa.fEdges b.1 fun f =>
   bnd (Gk n a0 f) fun g =>
   cnd (g)
    (bndM 22 (Za n f b.2.1 b.2.2.2) fun e =>
    cnd (e.1)
     (app b.2.2.1 [f] 240 fun h =>
     (Ok n a0 c d) ((aA .i64 (b.1+1)),e.2.1,h,e.2.2))
    <| (Ok n a0 c d) ((aA .i64 (b.1+1)),e.2.1,b.2.2.1,e.2.2))
   <| (Ok n a0 c d) ((aA .i64 (b.1+1)),b.2.1,b.2.2.1,b.2.2.2))
  <| c b.2.1 b.2.2.1 b.2.2.2
def Z5 (n:Nat)(a0:B0)(m0:Int)(m1:(List (Int×Bool))):Option ((List Ai)×Int×(List (Int×Bool))) :=
 Ok n a0
  (fun b c d=>frz 7027 <| reg <| some (c,b,d)) n (0,m0,[],m1)
noncomputable def Vs (n:Nat)(d:Option (Bool)):Nat->(List Int)×(List Ah)×Int×Int×(List Cb)×(List Ai)×(List (Int×Bool))->Option (Bool)
 |0,_=>none
 |e+1,b =>
  nxt b.2.2.2.2.2.2
   (d)
  <| pck b.2.2.2.2.2.2 fun f g =>
  reg <| bndM 56 (Vy n f.1 b.1 (⟨b.2.1,⟨b.2.2.1,b.2.2.2.1,b.2.2.2.2.1,b.2.2.2.2.2.1⟩⟩:B0)) fun c =>
  cnd (c.1)
   (some true)
  <| (Vs n d e) (c.2.1,c.2.2.ftypes,c.2.2.fa.fVars,c.2.2.fa.fScopes,c.2.2.fa.fStates,c.2.2.fa.fEdges,g)
def Vr (n:Nat)(f:Bool×(List Ah)×Int×Int×(List Cb)×(List Ai)×(List Int))(g:Int×(List (Int×Bool)))(d:(List Ai)×Int×(List (Int×Bool)))(c:(List (Int×Bool))->(List (Int×Bool))->Option (Bool)):Nat->Int×(List (Int×Bool))->Option (Bool)
 |0,_=>none
 |e+1,b =>
  cnd (decide (b.1<((d.1.map Ab).length:Int)))
   (idx d.1 b.1 fun h =>
   mst b.2 h.fTo true fun j =>
   (Vr n f g d c e) ((aA .i64 (b.1+1)),j))
  <| c b.2 d.2.2
def Vt (n:Nat)(b:Bool×(List Ah)×Int×Int×(List Cb)×(List Ai)×(List Int))(d:(List (Int×Bool))->Option (Bool)):Nat->Int×(List (Int×Bool))->Option (Bool)
 |0,_=>none
 |f+1,c =>
  cnd (decide (c.1<((b.2.2.2.2.2.2.map aI).length:Int)))
   (idx b.2.2.2.2.2.2 c.1 fun h =>
   bndM 33 (Z5 n (⟨b.2.1,⟨b.2.2.1,b.2.2.2.1,b.2.2.2.2.1,b.2.2.2.2.2.1⟩⟩:B0) h c.2) fun j =>
   Vr n b c j
    (fun e g=>(Vt n b d f) ((aA .i64 (c.1+1)),e)) n (0,[]))
  <| d c.2
noncomputable def Po (n:Nat)(b:Bool×(List Ah)×Int×Int×(List Cb)×(List Ai)×(List Int)):Option (Bool) :=
 cnd (b.1)
  (some false)
 <| mst [] 0 true fun x9 =>
 Vt n b
  (fun c=>frs 7022 c <| reg <| bnd (Er n (⟨b.2.1,⟨b.2.2.1,b.2.2.2.1,b.2.2.2.2.1,b.2.2.2.2.2.1⟩⟩:B0)) fun d =>
 bnd (Rb n (Cj c) d) fun e =>
 Vs n
  (some false) n (b.2.2.2.2.2.2,b.2.1,b.2.2.1,b.2.2.2.1,b.2.2.2.2.1,b.2.2.2.2.2.1,e)) n (0,x9)
noncomputable def Zi (n:Nat)(a0:B0)(a1:(List Int)):Option (Bool) :=
 jon (Po n) <|
 reg <| cnd (decide (((a1.map aI).length:Int)=0))
  (Po n (true,a0.ftypes,a0.fa.fVars,a0.fa.fScopes,a0.fa.fStates,a0.fa.fEdges,a1))
 <| bndM 19 (Vy n 0 a1 a0) fun b =>
 Po n (!(b.1),b.2.2.ftypes,b.2.2.fa.fVars,b.2.2.fa.fScopes,b.2.2.fa.fStates,b.2.2.fa.fEdges,b.2.1)
def Vg (n:Nat)(a2:C3)(a1:Int)(a0:B0)(d:(List Int))(c:Option (Int)):Nat->Int->Option (Int)
 |0,_=>none
 |e+1,b =>
  cnd (decide (b<((a2.fPrefix.map Aj).length:Int)))
   (idx a2.fPrefix b fun f =>
   idx a2.fPrefix (aA .i64 (b-a1)) fun g =>
   cnd (decide (f.fTime=g.fTime))
    (some 5)
   <| (Vg n a2 a1 a0 d c e) (aA .i64 (b+1)))
  <| c
def Vh (n:Nat)(a2:C3)(a1:Int)(a0:B0)(c:(List Int)->Option (Int)):Nat->Int×(List Int)->Option (Int)
 |0,_=>none
 |d+1,b =>
  cnd (decide (b.1<((a2.fPrefix.map Aj).length:Int)))
   (idx a2.fPrefix b.1 fun e =>
   bnd (Zv n a0.ftypes e) fun f =>
   cnd (!decide (f=0))
    (some f)
   <| app b.2 [e.fType] 8 fun g =>
   (Vh n a2 a1 a0 c d) ((aA .i64 (b.1+1)),g))
  <| c b.2
noncomputable def Z7 (n:Nat)(a0:B0)(a1:Int)(a2:C3):Option (Int) :=
 bnd (Zs n a2.fPrefix) fun x1 =>
 cnd (!decide (x1=0))
  (some x1)
 <| Vh n a2 a1 a0
  (fun b=>Vg n a2 a1 a0 b
  (bnd (Zo n a2) fun c =>
 cnd (!decide (c=0))
  (some c)
 <| bnd (Zi n a0 b) fun d =>
 cnd (!(d))
  (some 18)
 <| some 0) n a1) n (0,[])
def Qz (n:Nat)(b:Bool):Option (Int) :=
 cnd (b)
  (some 18)
 <| some 0
noncomputable def R0 (n:Nat)(a3:C3)(a2:Int)(a1:A9)(b:Bool):Option (Int) :=
 cnd (b)
  (some 3)
 <| bnd (Gq n a1 a2) fun x3 =>
 jon (Qz n) <|
 reg <| cnd (!(x3.2))
  (Qz n true)
 <| Qz n (decide (a3.fBound<x3.1))
noncomputable def Wz (n:Nat)(a0:(List Ah))(a1:A9)(a2:Int)(a3:C3):Option (Int) :=
 bnd (Gp n a0 a1 a2) fun x1 =>
 cnd (!decide (x1=0))
  (some x1)
 <| cnd (decide (a3.fVerdict=1))
  (jon (R0 n a3 a2 a1) <|
  reg <| cnd (decide (0<((a3.fPrefix.map Aj).length:Int)))
   (R0 n a3 a2 a1 true)
  <| R0 n a3 a2 a1 (!decide (a3.fPeriod=0)))
 <| cnd (decide (a3.fVerdict=2))
  (cnd (!decide (a3.fBound=0))
    (some 3)
  <| bnd (Z7 n (⟨a0,a1⟩:B0) a2 a3) fun x5 =>
  some x5)
 <| some 1
def Mh (n:Nat)(b:Bool):Option (Bool) :=
 some b
def N2 (n:Nat)(a0:Ap):Option (Bool) :=
 jon (Mh n) <|
 reg <| bnd (Du n a0 200) fun x4 =>
 cnd (decide (x4<=200))
  (bnd (Dt n a0) fun x5 =>
  Mh n (decide (x5<=100)))
 <| Mh n false
def Q2 (n:Nat)(a0:(List B7))(b:Option (Bool)):Nat->Int->Option (Bool)
 |0,_=>none
 |d+1,c =>
  cnd (decide (c<((a0.map B1).length:Int)))
   (idx a0 c fun e =>
   bnd (N2 n e.fCond) fun f =>
   cnd (!(f))
    (some false)
   <| (Q2 n a0 b d) (aA .i64 (c+1)))
  <| b
def Tj (n:Nat)(a0:(List B7)):Option (Bool) :=
 Q2 n a0
  (some true) n 0
def Mg (n:Nat)(b:Bool):Option (Bool) :=
 some b
def Q3 (n:Nat)(a0:A9)(f:Int)(d:Ai)(b:Option (Bool)):Nat->Int->Option (Bool)
 |0,_=>none
 |e+1,c =>
  cnd (decide (c<((d.fChecks.map idA).length:Int)))
   (idxD Bp d.fChecks c fun g =>
   bnd (N2 n g) fun h =>
   cnd (!(h))
    (some false)
   <| (Q3 n a0 f d b e) (aA .i64 (c+1)))
  <| b
def Ff (n:Nat)(a0:A9)(b:Int)(c:Int->Option (Bool))(e:Ai)(d:Bool):Option (Bool) :=
 cnd (d)
  (some false)
 <| Q3 n a0 b e
  (c (aA .i64 (b+1))) n 0
def M4 (n:Nat)(a0:A9)(d:Int)(e:Option (Bool))(c:Int->Option (Bool))(f:Bool):Option (Bool) :=
 cnd (f)
  (idx a0.fEdges d fun b =>
  jon (Ff n a0 d c b) <|
  reg <| bnd (N2 n b.fCond) fun g =>
  cnd (!(g))
   (Ff n a0 d c b true)
  <| cnd (decide (8<((b.fChecks.map idA).length:Int)))
   (Ff n a0 d c b true)
  <| cnd (decide (12<((b.fOpens.map aI).length:Int)))
   (Ff n a0 d c b true)
  <| cnd (decide (12<((b.fCloses.map aI).length:Int)))
   (Ff n a0 d c b true)
  <| cnd (decide (12<((b.fInside.map aI).length:Int)))
   (Ff n a0 d c b true)
  <| Ff n a0 d c b (decide (12<((b.fLimits.map Bn).length:Int))))
 <| e
def Jo (n:Nat)(a0:A9)(b:Option (Bool)):Nat->Int->Option (Bool)
 |0,_=>none
 |d+1,c =>
  jon (M4 n a0 c b (Jo n a0 b d)) <|
  reg <| cnd (decide (c<((a0.fEdges.map Ab).length:Int)))
   (M4 n a0 c b (Jo n a0 b d) (decide (c<60)))
  <| M4 n a0 c b (Jo n a0 b d) false
def Gb (n:Nat)(a0:A9)(d:Int)(b:Int->Option (Bool))(c:Bool):Option (Bool) :=
 cnd (c)
  (some false)
 <| b (aA .i64 (d+1))
def M3 (n:Nat)(a0:A9)(b:Int)(d:Option (Bool))(c:Int->Option (Bool))(e:Bool):Option (Bool) :=
 cnd (e)
  (jon (Gb n a0 b c) <|
  reg <| idx a0.fStates b fun f =>
  cnd (decide (12<((f.fGuards.map B1).length:Int)))
   (idx a0.fStates b fun g =>
   cnd (decide (((g.fGuards.map B1).length:Int)<=64))
    (Gb n a0 b c true)
   <| idx a0.fStates b fun h =>
   cnd (decide (70<((h.fGuards.map B1).length:Int)))
    (Gb n a0 b c true)
   <| idx a0.fStates b fun j =>
   bnd (Tj n j.fGuards) fun k =>
   Gb n a0 b c !(k))
  <| idx a0.fStates b fun l =>
  cnd (decide (70<((l.fGuards.map B1).length:Int)))
   (Gb n a0 b c true)
  <| idx a0.fStates b fun o =>
  bnd (Tj n o.fGuards) fun p =>
  Gb n a0 b c !(p))
 <| d
def Jp (n:Nat)(a0:A9)(b:Option (Bool)):Nat->Int->Option (Bool)
 |0,_=>none
 |d+1,c =>
  jon (M3 n a0 c b (Jp n a0 b d)) <|
  reg <| cnd (decide (c<((a0.fStates.map Aq).length:Int)))
   (M3 n a0 c b (Jp n a0 b d) (decide (c<30)))
  <| M3 n a0 c b (Jp n a0 b d) false
def Tk (n:Nat)(a0:A9):Option (Bool) :=
 Jp n a0
  (Jo n a0
  (jon (Mg n) <|
 reg <| cnd (decide (((a0.fStates.map Aq).length:Int)<=20))
  (Mg n (decide (((a0.fEdges.map Ab).length:Int)<=40)))
 <| Mg n false) n 0) n 0
def T1 (n:Nat)(a0:Aw):Option (Bool) :=
 cnd (decide (0<=a0.fTime))
  (cnd (decide (a0.fTime<=1099511627776))
    (cnd (decide (0<=a0.fSource))
      (cnd (decide (a0.fSource<8))
        (cnd (decide (0<=a0.fSeq))
          (some (decide (a0.fSeq<=1099511627776)))
        <| some false)
      <| some false)
    <| some false)
  <| some false)
 <| some false
def N4 (n:Nat)(a0:Aw):Option (Cm) :=
 some (⟨a0.fTime,a0.fSource,a0.fSeq⟩)
def Qo (n:Nat)(a0:Aw)(a1:Aw):Option (Bool) :=
 cnd (decide (a0.fSource=a1.fSource))
  (some (decide (a0.fSeq=a1.fSeq)))
 <| some false
def Pj (n:Nat)(a0:(List Aw))(c:Int)(b:Option (Int)):Nat->Int->Option (Int)
 |0,_=>none
 |e+1,d =>
  cnd (decide (d<c))
   (idx a0 d fun f =>
   idx a0 c fun g =>
   bnd (Qo n f g) fun h =>
   cnd (h)
    (some 7)
   <| (Pj n a0 c b e) (aA .i64 (d+1)))
  <| b
def Pi (n:Nat)(a0:(List Aw))(c:Int)(b:Option (Int)):Nat->Int->Option (Int)
 |0,_=>none
 |e+1,d =>
  cnd (decide (d<c))
   (idx a0 d fun f =>
   idx a0 c fun g =>
   bnd (Qo n f g) fun h =>
   cnd (h)
    (some 7)
   <| (Pi n a0 c b e) (aA .i64 (d+1)))
  <| b
def Hb (n:Nat)(a0:(List Aw))(c:Option (Int)):Nat->Int->Option (Int)
 |0,_=>none
 |d+1,b =>
  cnd (decide (b<((a0.map Aj).length:Int)))
   (idx a0 b fun g =>
   bnd (T1 n g) fun h =>
   cnd (!(h))
    (some 2)
   <| cnd (decide (0<b))
    (idx a0 (aA .i64 (b-1)) fun j =>
    bnd (N4 n j) fun e =>
    idx a0 b fun k =>
    bnd (N4 n k) fun f =>
    bnd (T6 n (⟨e.fTime,e.fSource,e.fSeq⟩:Cm) (⟨f.fTime,f.fSource,f.fSeq⟩:Cm)) fun l =>
    cnd (decide (0<=l))
     (some 14)
    <| Pj n a0 b
     ((Hb n a0 c d) (aA .i64 (b+1))) n 0)
   <| Pi n a0 b
    ((Hb n a0 c d) (aA .i64 (b+1))) n 0)
  <| c
def Mr (n:Nat)(a0:(List Aw)):Option (Int) :=
 cnd (decide (4096<((a0.map Aj).length:Int)))
  (some 5)
 <| Hb n a0
  (some 0) n 0
def M1 (n:Nat)(a1:Int)(a0:A9)(c:(List Ai)->Option ((List Ai))):Nat->Int×(List Ai)->Option ((List Ai))
 |0,_=>none
 |d+1,b =>
  cnd (decide (b.1<((a0.fEdges.map Ab).length:Int)))
   (reg <| idx a0.fEdges b.1 fun e =>
   cnd (decide (e.fFrom=a1))
    (idx a0.fEdges b.1 fun f =>
    app b.2 [f] 240 fun g =>
    (M1 n a1 a0 c d) ((aA .i64 (b.1+1)),g))
   <| (M1 n a1 a0 c d) ((aA .i64 (b.1+1)),b.2))
  <| c b.2
def Tf (n:Nat)(a0:A9)(a1:Int):Option ((List Ai)) :=
 M1 n a1 a0
  (fun b=>some b) n (0,[])
attribute [irreducible] Kb Es Eu D9 Jw I2 Kc Dq E6 D6 Kd Kz Lh Li K7 I1 Ml Mj Nf K3 Lg Gg                    K8 R1 R9 Qx Qy Po Qz R0   Mh Mg Ff M4 Gb M3                
end Go.Proofs.YthbogefcfhmpgaaGreat
