/- What some functions compute, over plain values. -/
import Derived.Test.YthbogefcfhmpgaaGreatK15
set_option linter.unusedVariables false
set_option linter.unusedSimpArgs false
set_option maxRecDepth 100000
set_option maxHeartbeats 8000000
namespace Go.Proofs.YthbogefcfhmpgaaGreat
open Go.RowKit
open CI renaming w->aA
open IntKind renaming wrap->aB
open LeX renaming a->aC,trans->aK,adopt->aL
open RetX renaming oB->aD
open AW renaming step->aE,stepU->aF,regO->aG,jI->aS
open IdxX renaming oD->aH,A->aP
open A1 renaming o->aJ
open ConG renaming walk->aM,up->aR
open Av renaming I->aN
open Ab renaming I->aO
open Tryz renaming func365->aU,func366->aV,func367->aW,func368->aX,func369->aY
noncomputable section
structure zph where
 fTypes:(List Cd)
 fA:Ad
 fRate:Int
deriving Inhabited
def Y1 (n:Nat)(a:(List Cd))(c:Int)(b:Int->Option (Bool))(d:Bool):Option (Bool):=cnd (d) (some false)<|b (aB .i64 (c+1))
def z0d (n:Nat)(a:(List Cd))(b:Option (Bool)):Nat->Int->Option (Bool) |0,_=>none |d+1,c=>cnd (decide (c<((a.map Bf).length:Int))) (jon (Y1 n a c (z0d n a b d))<|reg<|idx a c fun e=>cnd (decide (20<((e.fFields.map E9).length:Int))) (Y1 n a c (z0d n a b d) true)<|idx a c fun f=>Y1 n a c (z0d n a b d) (decide (100<((f.fName.size:Nat):Int))))<|b
def H3 (n:Nat):Option (Ay):=bnd (Du n true) fun a=>some (⟨0,[],0,0,0,a⟩)
def z0t (n:Nat)(d:Ay):Option (Ad):=mak 2 24 (⟨[]⟩:Dm) fun c=>bnd (H3 n) fun b=>bld ([⟨0,1,0,0,b,[],[],[],[],[]⟩,⟨1,(-1),1,0,d,[],[],[],[],[]⟩]:List Ae) fun a=>some (⟨2,1,c,a⟩)
def Xt (n:Nat):Option (Ad):=bnd (H3 n) fun o=>bndM 3 (z0t n o) fun h=>nat 0 (h.fEdges.map A9).length fun m=>ltx m (h.fEdges.map A9).length<|stx h.fEdges m (fun g=>⟨g.fFrom,g.fTo,g.fVar,g.fType,g.fCond,[0],g.fCloses,g.fChecks,g.fLimits,g.fInside⟩) fun j=>nat 0 (j.map A9).length fun l=>ltx l (j.map A9).length<|stx j l (fun a=>⟨a.fFrom,a.fTo,a.fVar,a.fType,a.fCond,a.fOpens,a.fCloses,a.fChecks,[⟨0,5⟩],a.fInside⟩) fun i=>nat 1 (i.map A9).length fun k=>ltx k (i.map A9).length<|stx i k (fun b=>⟨b.fFrom,b.fTo,b.fVar,b.fType,b.fCond,b.fOpens,[0],b.fChecks,b.fLimits,b.fInside⟩) fun d=>nat 1 (d.map A9).length fun e=>ltx e (d.map A9).length<|stx d e (fun c=>⟨c.fFrom,c.fTo,c.fVar,c.fType,c.fCond,c.fOpens,c.fCloses,c.fChecks,[⟨0,5⟩],c.fInside⟩) fun f=>some (⟨h.fVars,h.fScopes,h.fStates,f⟩)
def Od (n:Nat)(c:Ay):Option (Ad):=mak 2 24 (⟨[]⟩:Dm) fun b=>bnd (H3 n) fun a=>some (⟨2,1,b,[⟨0,1,0,0,a,[],[],[],[],[]⟩,⟨1,(-1),1,0,c,[],[],[],[],[]⟩]⟩)
def Y3 (n:Nat)(g:(List Int))(a:(List Int))(c:Option (Bool)):Nat->Int->Option (Bool) |0,_=>none |d+1,b=>cnd (decide (b<((a.map aI).length:Int))) (idx a b fun e=>idx g b fun f=>cnd (!decide (e=f)) (some false)<|(Y3 n g a c d) (aB .i64 (b+1)))<|c
def z0y (n:Nat)(b:(List Int))(a:(List Int)):Option (Bool):=cnd (!decide (((b.map aI).length:Int)=((a.map aI).length:Int))) (some false)<|Y3 n a b (some true) n 0
def Y2 (n:Nat)(g:(List Bool))(a:(List Bool))(c:Option (Bool)):Nat->Int->Option (Bool) |0,_=>none |d+1,b=>cnd (decide (b<((a.map AV.bool).length:Int))) (idx a b fun e=>idx g b fun f=>cnd (!(e == f)) (some false)<|(Y2 n g a c d) (aB .i64 (b+1)))<|c
def z0x (n:Nat)(b:(List Bool))(a:(List Bool)):Option (Bool):=cnd (!decide (((b.map AV.bool).length:Int)=((a.map AV.bool).length:Int))) (some false)<|Y2 n a b (some true) n 0
def Kl (n:Nat)(b:Bool):Option (Bool):=cnd (b) (some false)<|bnd (H3 n) fun c=>bnd (Od n c) fun d=>bnd (Z8 n ([⟨(ByteArray.mk #[65]),[⟨(ByteArray.mk #[120]),0⟩]⟩]) d 1 (⟨2,0,[⟨0,0,0,0,[⟨0,0,ByteArray.empty⟩]⟩],1⟩:El)) fun e=>some (decide (e=0))
def Dk (n:Nat)(a:(List Int)×(List Bool)×Int)(h:El×Int)(b:Bool):Option (Bool):=cnd (b) (some false)<|jon (Kl n)<|reg<|bnd (z0y n a.1 ([0,5])) fun c=>cnd (!(c)) (Kl n true)<|bnd (z0x n a.2.1 ([true,true])) fun d=>cnd (!(d)) (Kl n true)<|bnd (H3 n) fun e=>bnd (Od n e) fun f=>bnd (Z8 n ([⟨(ByteArray.mk #[65]),[⟨(ByteArray.mk #[120]),0⟩]⟩]) f 1 h.1) fun g=>Kl n (!decide (g=0))
def Ip (n:Nat):Option (Bool):=bnd (Xt n) fun l=>bnd (Mj n l) fun e=>bnd (Xt n) fun k=>bnd (Rh n ([⟨(ByteArray.mk #[65]),[⟨(ByteArray.mk #[120]),0⟩]⟩]) k 2) fun f=>bnd (H3 n) fun j=>bnd (Od n j) fun i=>bnd (Rh n ([⟨(ByteArray.mk #[65]),[⟨(ByteArray.mk #[120]),0⟩]⟩]) i 1) fun a=>bnd (Od n (⟨7,[(Au ⟨1,[],1,0,0,⟨0,0,ByteArray.empty⟩⟩),(Au ⟨1,[],0,0,0,⟨0,0,ByteArray.empty⟩⟩)],0,0,0,⟨0,0,ByteArray.empty⟩⟩:Ay)) fun h=>bnd (Rh n ([⟨(ByteArray.mk #[65]),[⟨(ByteArray.mk #[120]),0⟩]⟩]) h 1) fun g=>mak 1 24 (⟨[]⟩:Dm) fun c=>bnd (H3 n) fun d=>frz 53<|reg<|bnd (Rh n ([⟨(ByteArray.mk #[65]),[⟨(ByteArray.mk #[120]),0⟩]⟩]) (⟨1,0,c,[⟨0,(-1),0,0,d,[],[],[],[],[]⟩]⟩:Ad) 1) fun b=>jon (Dk n e a)<|reg<|cnd (!decide (e.2.2=0)) (Dk n e a true)<|cnd (!decide (f.2=0)) (Dk n e a true)<|cnd (!decide (a.2=0)) (Dk n e a true)<|cnd (!decide (g.2=0)) (Dk n e a true)<|cnd (!decide (b.2=0)) (Dk n e a true)<|cnd (!decide (f.1.fVerdict=1)) (Dk n e a true)<|cnd (!decide (f.1.fBound=12)) (Dk n e a true)<|cnd (!decide (a.1.fVerdict=2)) (Dk n e a true)<|cnd (!decide (g.1.fVerdict=0)) (Dk n e a true)<|cnd (!decide (b.1.fVerdict=1)) (Dk n e a true)<|Dk n e a (!decide (b.1.fBound=0))
attribute [irreducible] Y1  Kl Dk     
end
noncomputable section
def Gm (n:Nat)(a:Ad)(e:Int×(List Bool))(c:(List Bool)->Option ((List Bool))):Nat->Int×(List Bool)->Option ((List Bool)) |0,_=>none |d+1,b=>cnd (decide (b.1<((a.fEdges.map A9).length:Int))) (idx a.fEdges b.1 fun f=>reg<|cnd (decide (f.fTo<0)) (nat f.fFrom (b.2.map AV.bool).length fun g=>stx b.2 g (fun p=>true) fun h=>(Gm n a e c d) ((aB .i64 (b.1+1)),h))<|nat f.fTo (b.2.map AV.bool).length fun j=>elt b.2 j fun k=>cnd (k) (nat f.fFrom (b.2.map AV.bool).length fun l=>stx b.2 l (fun q=>true) fun o=>(Gm n a e c d) ((aB .i64 (b.1+1)),o))<|(Gm n a e c d) ((aB .i64 (b.1+1)),b.2))<|c b.2
def Ju (n:Nat)(a:Ad)(c:(List Bool)->Option ((List Bool))):Nat->Int×(List Bool)->Option ((List Bool)) |0,_=>none |e+1,b=>cnd (decide (b.1<((a.fStates.map Ao).length:Int))) (Gm n a b (fun d=>(Ju n a c e) ((aB .i64 (b.1+1)),d)) n (0,b.2))<|c b.2
def Xs (n:Nat)(a:Ad):Option ((List Bool)):=mak ((a.fStates.map Ao).length:Int) 1 (false:Bool) fun c=>Ju n a (fun b=>some b) n (0,c)
def K3 (n:Nat)(a:(List Bool))(c:(List Int)->Option ((List Int))):Nat->Int×(List Int)->Option ((List Int)) |0,_=>none |d+1,b=>cnd (decide (b.1<((a.map AV.bool).length:Int))) (reg<|idx a b.1 fun e=>cnd (e) (app b.2 [b.1] 8 fun f=>(K3 n a c d) ((aB .i64 (b.1+1)),f))<|(K3 n a c d) ((aB .i64 (b.1+1)),b.2))<|c b.2
def Y0 (n:Nat)(a:(List Bool)):Option ((List Int)):=K3 n a (fun b=>some b) n (0,[])
def Tz (n:Nat)(b:Ad):Option ((List Int)×Int):=bnd (G3 n b) fun a=>cnd (!decide (a=0)) (some ([],a))<|bnd (Xs n b) fun d=>bnd (Y0 n d) fun c=>some (c,0)
end
noncomputable section
def Fn (n:Nat)(a:A6)(h:(List A6))(i:Ad)(e:(List Int)×(List Bool)×Int)(f:(List A5)×(List Aa)×Int)(g:(List Int)×Int)(c:Int)(b:Int->Option (Bool))(d:Bool):Option (Bool):=cnd (d) (some false)<|b (aB .i64 (c+1))
def Ez (n:Nat)(a:A6)(i:(List A6))(m:Ad)(d:(List Int)×(List Bool)×Int)(e:(List A5)×(List Aa)×Int)(f:(List Int)×Int)(c:Int)(b:Int->Option (Bool))(h:A5)(j:Bool):Option (Bool):=cnd (j) (b (aB .i64 (c+1)))<|bnd (Rz n m i h a) fun g=>jon (Fn n a i m d e f c b)<|reg<|cnd (!decide (g.2.2=0)) (Fn n a i m d e f c b true)<|cnd (decide (0<((g.2.1.map Az).length:Int))) (Fn n a i m d e f c b true)<|cnd (decide (1<((g.1.map Ai).length:Int))) (Fn n a i m d e f c b true)<|cnd (decide (((g.1.map Ai).length:Int)=1)) (idx g.1 0 fun k=>bnd (I7 n k h) fun l=>Fn n a i m d e f c b (!decide (l=0)))<|Fn n a i m d e f c b false
def Ey (n:Nat)(a:A6)(i:(List A6))(m:Ad)(c:(List Int)×(List Bool)×Int)(d:(List A5)×(List Aa)×Int)(e:(List Int)×Int)(b:Option (Bool)):Nat->Int->Option (Bool) |0,_=>none |h+1,g=>cnd (decide (g<((d.1.map Ai).length:Int))) (idx d.1 g fun f=>jon (Ez n a i m c d e g (Ey n a i m c d e b h) f)<|reg<|cnd (decide (((f.fBindings.map B6).length:Int)=0)) (Ez n a i m c d e g (Ey n a i m c d e b h) f true)<|bnd (Dl n e.1 f.fState) fun j=>cnd (!(j)) (Ez n a i m c d e g (Ey n a i m c d e b h) f true)<|idx c.2.1 f.fState fun k=>cnd (!(k)) (Ez n a i m c d e g (Ey n a i m c d e b h) f true)<|idx f.fBindings 0 fun l=>idx c.1 f.fState fun o=>Ez n a i m c d e g (Ey n a i m c d e b h) f (decide ((aB .i64 (a.fTime-l.fRef.fTime))<=o)))<|b
def Fo (n:Nat)(a:A6)(g:(List A6))(h:Ad)(c:(List Int)×(List Bool)×Int)(d:(List A5)×(List Aa)×Int)(e:(List Int)×Int)(b:Bool):Option (Bool):=cnd (b) (some false)<|Ey n a g h c d e (bnd (Ip n) fun f=>some f) n 0
def F0 (n:Nat)(h:A6)(g:(List A6))(a:Ad)(e:Bool):Option (Bool):=cnd (e) (bnd (Ip n) fun f=>some f)<|bnd (Mj n a) fun b=>bnd (Wo n a g) fun c=>bnd (Tz n a) fun d=>jon (Fo n h g a b c d)<|reg<|cnd (!decide (b.2.2=0)) (Fo n h g a b c d true)<|cnd (!decide (c.2.2=0)) (Fo n h g a b c d true)<|cnd (!decide (d.2=0)) (Fo n h g a b c d true)<|cnd (!decide (((b.1.map aI).length:Int)=((a.fStates.map Ao).length:Int))) (Fo n h g a b c d true)<|Fo n h g a b c d (!decide (((b.2.1.map AV.bool).length:Int)=((b.1.map aI).length:Int)))
def Eh (n:Nat)(g:A6)(a:(List A6))(h:Ad)(d:Bool):Option (Bool):=cnd (d) (bnd (Ip n) fun i=>some i)<|jon (F0 n g a h)<|reg<|cnd (decide (0<((a.map A7).length:Int))) (idx a (aB .i64 (((a.map A7).length:Int)-1)) fun e=>bnd (Hb n e) fun b=>bnd (Hb n g) fun c=>bnd (Ll n (⟨b.fTime,b.fSource,b.fSeq⟩:Bm) (⟨c.fTime,c.fSource,c.fSeq⟩:Bm)) fun f=>F0 n g a h (decide (0<=f)))<|F0 n g a h false
def X9 (n:Nat)(h:Ad)(g:(List A6))(a:A6):Option (Bool):=jon (Eh n a g h)<|reg<|bnd (Q1 n h g) fun b=>cnd (!(b)) (Eh n a g h true)<|bnd (G3 n h) fun c=>cnd (!decide (c=0)) (Eh n a g h true)<|bnd (Io n g) fun d=>cnd (!decide (d=0)) (Eh n a g h true)<|bnd (Pu n a) fun e=>cnd (!(e)) (Eh n a g h true)<|bnd (Qm n [a]) fun f=>Eh n a g h !(f)
attribute [irreducible] Fn Ez Fo F0 Eh
end
noncomputable section
abbrev z58 {n b a g c d e}:=jf (Kh n b a g c d e) (fun f=>⟨[(1,aI a),(2,.ptr 2 0),(5,aI c.1),(6,aI c.2),(16,.bool (f))],[(2,.box 146 (D0 g))]⟩) fun _=>Kh.eq_1 ..
abbrev z57 {n b a e c}:=li (I6 n b a e c) (fun d=>⟨[(1,aI a),(2,.ptr 2 0),(5,aI d.1),(6,aI d.2)],[(2,.box 146 (D0 e))]⟩) fun _ _=>I6.eq_2 ..
abbrev z56 {n b a c}:=li (P0 n b a c) (fun d=>⟨[(1,.ptr 1 0),(3,aI d.1),(4,aI d.2)],[(1,.box 146 (D0 a))]⟩) fun _ _=>P0.eq_2 ..
abbrev z4y {n}:=jt (Ej n) (fun b=>⟨[(12,.bool (b))],[]⟩) fun _=>Ej.eq_1 ..
abbrev z4z {n a}:=jt (Fy n a) (fun b=>⟨[(3,aI a),(4,.bool (b))],[]⟩) fun _=>Fy.eq_1 ..
abbrev z67 {n b}:=jf (I8 n b) (fun c=>⟨[(2,.bool (c)),(3,.bool (b))],[]⟩) fun _=>I8.eq_1 ..
abbrev z68 {n a}:=jf (Ku n a) (fun b=>⟨[(0,aI a),(4,.bool (b))],[]⟩) fun _=>Ku.eq_1 ..
abbrev z59 {n}:=jf (Gs n) (fun b=>⟨[(4,.bool (b))],[]⟩) fun _=>Gs.eq_1 ..
abbrev z6a {n}:=jf (C9 n) (fun b=>⟨[(130,.bool (b))],[]⟩) fun _=>C9.eq_1 ..
abbrev z6b {n d a b}:=jf (Gv n d a b) (fun c=>⟨[(1,.ptr 1 0),(4,.bool (a.1)),(5,.bool (a.2)),(6,.bool (decide (d.fOp=4))),(7,.bool (b)),(95,.bool (c))],[(1,.box 146 (D0 d))]⟩) fun _=>Gv.eq_1 ..
abbrev z6c {n c a b}:=jt (Kv n c a b) (fun _=>⟨[(1,.ptr 1 0),(4,.bool (a.1)),(5,.bool (a.2)),(6,.bool (decide (c.fOp=4))),(7,.bool (b))],[(1,.box 146 (D0 c))]⟩) fun _=>Kv.eq_1 ..
abbrev z6d {n c a}:=jf (Kw n c a) (fun b=>⟨[(1,.ptr 1 0),(4,.bool (a.1)),(5,.bool (a.2)),(6,.bool (decide (c.fOp=4))),(7,.bool (b))],[(1,.box 146 (D0 c))]⟩) fun _=>Kw.eq_1 ..
abbrev z6e {n c a}:=jf (I9 n c a) (fun b=>⟨[(1,.ptr 1 0),(4,.bool (a.1)),(5,.bool (a.2)),(6,.bool (decide (c.fOp=4))),(62,.bool (b))],[(1,.box 146 (D0 c))]⟩) fun _=>I9.eq_1 ..
abbrev z6f {n c a}:=jf (E5 n c a) (fun b=>⟨[(1,.ptr 1 0),(4,.bool (a.1)),(5,.bool (a.2)),(48,.bool (b))],[(1,.box 146 (D0 c))]⟩) fun _=>E5.eq_1 ..
abbrev z4x {n b a c}:=li (Oz n b a c) (fun d=>⟨[(1,.ptr 1 0),(4,aI d)],[(1,.box 146 (D0 a))]⟩) fun _ _=>Oz.eq_2 ..
attribute [instance] z58 z57 z56 z4y z4z z67 z68 z59 z6a z6b z6c z6d z6e z6f z4x
def z9i (r:Int):AV:=aI (r)
theorem z4h {n d c r}(b:G6 n d c=some r):Con E0 true 148 [Au d,aI c] (aI r):=by
 induction n generalizing d c r
 case zero=>cases b
 case succ n e =>
 unfold G6 at b;refine cw Tryz.func148 ?_;repeat' first
  |refine aS b (fun v b=>?_) fun b=>?_
  |refine aG b fun b=>?_
  |refine aF [3] ?_;conv=>whnf
  |refine aJ b (fun b=>?_) fun b=>?_
  |refine aH b Dg (fun x b=>?_)
  |refine Ab.o b z9i (fun a h=>e h) (fun a b=>?_)
  |exact ⟨_,b,aC []⟩
  |refine aN b (aC []) fun m v b=>?_
  |exact aD b
instance zkc {n b a}:CI E0 (G6 n b a) true 148 [Au b,aI a] aI:=⟨z4h⟩
def z9h (r:Int):AV:=aI (r)
theorem z4g {n c r}(b:G5 n c=some r):Con E0 true 149 [Au c] (aI r):=by
 induction n generalizing c r
 case zero=>cases b
 case succ n d =>
 unfold G5 at b;refine cw Tryz.func149 ?_;repeat' first
  |refine aE ?_;conv=>whnf
  |refine aJ b (fun b=>?_) fun b=>?_
  |refine aH b Dg (fun x b=>?_)
  |refine Ab.o b z9h (fun a h=>d h) (fun a b=>?_)
  |exact ⟨_,b,aC []⟩
  |refine aN b (aC []) fun m v b=>?_
  |exact aD b
instance zkb {n a}:CI E0 (G5 n a) true 149 [Au a] aI:=⟨z4g⟩
instance zk8 {n a}:CI E0 (U8 n a) true 305 [aI a] aI:=by unfold U8;exact aA [2,3,4,5,10,11,12,13,14,15] Tryz.func305
instance zlh {n a}:CI E0 (Uf n a) true 306 [aI a] (fun r=>.tup [.bool (r.1),.bool (r.2)]):=by unfold Uf;exact aA [1,2] Tryz.func306
instance zkj {n a}:CI E0 (H0 n a) true 269 [Ac a] aI:=by unfold H0;exact aA [] Tryz.func269
instance zkf {n b a}:CI E0 (Lk n b a) true 307 [aI b,Ac a] (fun r=>.bool (r)):=by unfold Lk;exact aA [1] Tryz.func307
instance zlj {n c}:CI E0 (Ug n c) true 262 [Au c] aI:=⟨fun {r} b=>by
 unfold Ug at b;refine cw Tryz.func262 ?_;repeat' first
  |refine aS b (fun v b=>?_) fun b=>?_
  |refine AW.jI2 b (fun v b=>?_) fun b=>?_
  |refine aG b fun b=>?_
  |refine aF [7,10,12,13,17,19] ?_;conv=>whnf
  |refine aJ b (fun b=>?_) fun b=>?_
  |refine A1.t ?_
  |refine A1.f ?_
  |refine aO b fun a b=>?_
  |exact ⟨_,b,aC []⟩
  |exact ⟨(),b,aC []⟩
  |refine EqX.A ?_
  |exact aD b⟩
def z9g (r:Int):AV:=aI (r)
theorem z4f {n c r}(b:Gz n c=some r):Con E0 true 208 [Au c] (aI r):=by
 induction n generalizing c r
 case zero=>cases b
 case succ n d =>
 unfold Gz at b;refine cw Tryz.func208 ?_;repeat' first
  |refine aE ?_;conv=>whnf
  |refine aJ b (fun b=>?_) fun b=>?_
  |refine aO b fun a b=>?_
  |refine aH b Dg (fun x b=>?_)
  |refine Ab.o b z9g (fun a h=>d h) (fun a b=>?_)
  |exact ⟨_,b,aC []⟩
  |refine aN b (aC []) fun m v b=>?_
  |exact aD b
instance zk7 {n a}:CI E0 (Gz n a) true 208 [Au a] aI:=⟨z4f⟩
end
noncomputable section
abbrev z7l {n}:=jf (L6 n) (fun b=>⟨[(4,.bool (b))],[]⟩) fun _=>L6.eq_1 ..
abbrev z3t {n a e b c}:=li (Oc n a e b c) (fun d=>⟨[(1,.sl 11 (a.map B8)),(2,.ptr 2 0),(5,aI b),(6,aI d)],[(2,.box 26 (B3 e))]⟩) fun _ _=>Oc.eq_2 ..
abbrev z3v {n a e b c}:=jf (I5 n a e b c) (fun d=>⟨[(1,.sl 11 (a.map B8)),(2,.ptr 2 0),(5,aI b),(44,.bool (d))],[(2,.box 26 (B3 e))]⟩) fun _=>I5.eq_1 ..
abbrev z3u {n a d b}:=li (Ft n a d b) (fun c=>⟨[(1,.sl 11 (a.map B8)),(2,.ptr 2 0),(5,aI c)],[(2,.box 26 (B3 d))]⟩) fun _ _=>Ft.eq_2 ..
abbrev z3q {n a e b c}:=li (Ob n a e b c) (fun d=>⟨[(0,.sl 1 (e.map aI)),(1,aI a),(5,aI b),(6,aI d)],[]⟩) fun _ _=>Ob.eq_2 ..
abbrev z3r {n a d b}:=li (K2 n a d b) (fun c=>⟨[(0,.sl 1 (d.map aI)),(1,aI a),(5,aI c)],[]⟩) fun _ _=>K2.eq_2 ..
abbrev z4o {n a b}:=li (Kd n a b) (fun c=>⟨[(3,.ptr 3 0),(10,aI c)],[(3,.box 149 (Bp a))]⟩) fun _ _=>Kd.eq_2 ..
abbrev z4p {n a e b c}:=li (Gp n a e b c) (fun d=>⟨[(2,.ptr 2 0),(3,.ptr 3 0),(7,.sl 1 [.sl 1 (a.fOpens.map aI),.sl 1 (a.fCloses.map aI),.sl 1 (a.fInside.map aI),.sl 1 (b.map aI)]),(8,aI d)],[(2,.box 26 (B3 e)),(3,.box 149 (Bp a))]⟩) fun _ _=>Gp.eq_2 ..
abbrev z4q {n a d b}:=li (Ov n a d b) (fun c=>⟨[(2,.ptr 2 0),(3,.ptr 3 0),(5,.row 7026),(6,aI c.1)],[(2,.box 26 (B3 d)),(3,.box 149 (Bp a)),(7026,.row 3 1 (c.2.map aI))]⟩) fun _ _=>Ov.eq_2 ..
abbrev z5z {n a d b}:=li (Pb n a d b) (fun c=>⟨[(3,.ptr 3 0),(4,.ptr 4 0),(9,aI c)],[(3,.box 26 (B3 d)),(4,.box 149 (Bp a))]⟩) fun _ _=>Pb.eq_2 ..
abbrev z60 {n a c d}:=jf (Dt n a c d) (fun b=>⟨[(2,aI a),(3,.ptr 3 0),(4,.ptr 4 0),(42,.bool (b))],[(3,.box 26 (B3 d)),(4,.box 149 (Bp c))]⟩) fun _=>Dt.eq_1 ..
abbrev z4r {n a b}:=li (Ow n a b) (fun c=>⟨[(1,.ptr 1 0),(5,aI c.1),(6,aI c.2)],[(1,.box 26 (B3 a))]⟩) fun _ _=>Ow.eq_2 ..
abbrev z4s {n a b}:=li (Ox n a b) (fun c=>⟨[(1,.ptr 1 0),(3,aI c)],[(1,.box 26 (B3 a))]⟩) fun _ _=>Ox.eq_2 ..
abbrev z4t {n a}:=jf (Fv n a) (fun b=>⟨[(1,.ptr 1 0),(31,.bool (b))],[(1,.box 26 (B3 a))]⟩) fun _=>Fv.eq_1 ..
abbrev z4u {n a}:=jf (Gq n a) (fun b=>⟨[(1,.ptr 1 0),(15,.bool (b))],[(1,.box 26 (B3 a))]⟩) fun _=>Gq.eq_1 ..
attribute [instance] z7l z3t z3v z3u z3q z3r z4o z4p z4q z5z z60 z4r z4s z4t z4u
instance zkd {n a}:CI E0 (G7 n a) true 134 [Au a] aI:=by unfold G7;exact aA [] Tryz.func134
instance znw {n b a}:CI E0 (D4 n b a) true 65 [aI b,aI a] (fun r=>.bool (r)):=by unfold D4;exact aA [1] Tryz.func65
instance zig {n b a}:CI E0 (Ty n b a) true 66 [Bi b,.sl 11 (a.map B8)] aI:=by unfold Ty;exact aA [6] Tryz.func66
instance zie {n b a}:CI E0 (Pp n b a) true 209 [.sl 1 (b.map aI),aI a] aI:=by unfold Pp;exact aA [] Tryz.func209
instance zk2 {n d c}:CI E0 (Q2 n d c) true 135 [Bi d,A9 c] aI:=⟨fun {r} b=>by
 unfold Q2 at b;refine cw Tryz.func135 ?_;repeat' first
  |refine aG b fun b=>?_
  |refine AW.frzO b 7026 rfl (fun b=>?_)
  |refine aF [6] ?_;conv=>whnf
  |refine aJ b (fun b=>?_) fun b=>?_
  |refine aP b fun x b=>?_
  |refine aO b fun a b=>?_
  |exact ⟨_,b,aC []⟩
  |refine aN b ?_ fun m v b=>?_
  |exact aC []
  |refine IdxX.o (fun q=>AV.sl 1 (List.map aI q)) b fun x b=>?_
  |refine AppX.oA b fun l b=>?_
  |exact ⟨_,b,aC [(7026,26)]⟩
  |exact aK (aL 5 7026 3 1 rfl rfl) (aC [])
  |refine AndA ?_
  |exact aD b⟩
instance zlf {n e d c}:CI E0 (Ud n e d c) true 67 [Bi e,A9 d,aI c] aI:=⟨fun {r} b=>by
 unfold Ud at b;refine cw Tryz.func67 ?_;repeat' first
  |refine aS b (fun v b=>?_) fun b=>?_
  |refine aG b fun b=>?_
  |refine aF [2] ?_;conv=>whnf
  |refine aJ b (fun b=>?_) fun b=>?_
  |refine A1.t ?_
  |refine A1.f ?_
  |refine aO b fun a b=>?_
  |refine aH b Dg (fun x b=>?_)
  |exact ⟨_,b,aC []⟩
  |refine aN b (aC []) fun m v b=>?_
  |exact aD b⟩
end
noncomputable section
abbrev zgw {n b a d}:=li (Rp n b a d) (fun c=>⟨[(4,aI c.1),(5,aI c.2.1),(11,.sl 8 (a.fArgs.map idA)),(12,aI (((a.fArgs.map idA).length:Int))),(13,aI c.2.2)],[]⟩) fun _ _=>Rp.eq_2 ..
abbrev zfg {n a}:=jf (Mc n a) (fun b=>⟨[(0,aI a),(4,.bool (b))],[]⟩) fun _=>Mc.eq_1 ..
abbrev zgp {n}:=jt (Mf n) (fun b=>⟨[(8,.bool (b))],[]⟩) fun _=>Mf.eq_1 ..
abbrev zgq {n a}:=jt (Mg n a) (fun b=>⟨[(4,aI a),(5,.bool (b))],[]⟩) fun _=>Mg.eq_1 ..
abbrev zff {n}:=jf (J5 n) (fun b=>⟨[(4,.bool (b))],[]⟩) fun _=>J5.eq_1 ..
abbrev zao {n}:=jf (Hd n) (fun b=>⟨[(31,.bool (b))],[]⟩) fun _=>Hd.eq_1 ..
abbrev zgr {n}:=jf (Ca n) (fun b=>⟨[(113,.bool (b))],[]⟩) fun _=>Ca.eq_1 ..
abbrev zgs {n c a b}:=jt (Mh n c a b) (fun _=>⟨[(1,.ptr 1 0),(5,.bool (a.1)),(6,.bool (a.2)),(7,.bool (decide (c.fOp=4))),(8,.bool (b))],[(1,.box 146 (D0 c))]⟩) fun _=>Mh.eq_1 ..
abbrev zgt {n c a}:=jf (Mi n c a) (fun b=>⟨[(1,.ptr 1 0),(5,.bool (a.1)),(6,.bool (a.2)),(7,.bool (decide (c.fOp=4))),(8,.bool (b))],[(1,.box 146 (D0 c))]⟩) fun _=>Mi.eq_1 ..
abbrev zgu {n c a}:=jf (J6 n c a) (fun b=>⟨[(1,.ptr 1 0),(5,.bool (a.1)),(6,.bool (a.2)),(7,.bool (decide (c.fOp=4))),(66,.bool (b))],[(1,.box 146 (D0 c))]⟩) fun _=>J6.eq_1 ..
abbrev zgv {n c a}:=jf (E7 n c a) (fun b=>⟨[(1,.ptr 1 0),(5,.bool (a.1)),(6,.bool (a.2)),(52,.bool (b))],[(1,.box 146 (D0 c))]⟩) fun _=>E7.eq_1 ..
abbrev zfe {n b a c}:=li (Rj n b a c) (fun d=>⟨[(1,.fn 238 []),(16,.sl 8 (a.fArgs.map idA)),(17,aI (((a.fArgs.map idA).length:Int))),(18,aI d)],[]⟩) fun _ _=>Rj.eq_2 ..
abbrev z8z {n}:=jf (Lm n) (fun b=>⟨[(4,.bool (b))],[]⟩) fun _=>Lm.eq_1 ..
attribute [instance] zgw zfg zgp zgq zff zao zgr zgs zgt zgu zgv zfe z8z
instance zk3 {n a}:CI E0 (G3 n a) true 19 [Bi a] aI:=by unfold G3;exact aA [1,3] Tryz.func19
def zrm (r:Int×Int):AV:=.tup [aI (r.1),aI (r.2)]
theorem zfr {n c r}(b:Hn n c=some r):Con E0 true 236 [Au c] (.tup [aI r.1,aI r.2]):=by
 induction n generalizing c r
 case zero=>cases b
 case succ n d =>
 unfold Hn at b;refine cw Tryz.func236 ?_;repeat' first
  |refine aE ?_;conv=>whnf
  |refine aJ b (fun b=>?_) fun b=>?_
  |refine aH b Dg (fun x b=>?_)
  |refine Ab.o b zrm (fun a h=>d h) (fun a b=>?_)
  |exact ⟨_,b,aC []⟩
  |refine aN b (aC []) fun m v b=>?_
  |exact aD b
instance y0i {n a}:CI E0 (Hn n a) true 236 [Au a] (fun r=>.tup [aI r.1,aI r.2]):=⟨zfr⟩
instance zyk {n a}:CI E0 (W8 n a) true 282 [aI a] (fun r=>.tup [aI r.1,.bool (r.2)]):=by unfold W8;exact aA [1] Tryz.func282
instance y0f {n a}:CI E0 (Rv n a) true 264 [aI a] (fun r=>.tup [.bool (r.1),.bool (r.2)]):=by unfold Rv;exact aA [2,5] Tryz.func264
instance zy9 {n a}:CI E0 (Ml n a) true 310 [Ac a] aI:=by unfold Ml;exact aA [] Tryz.func310
instance zxj {n a}:CI E0 (Gc n a) true 271 [Ac a] aI:=by unfold Gc;exact aA [] Tryz.func271
instance zyi {n b a}:CI E0 (W7 n b a) true 312 [aI b,Ac a] (fun r=>.bool (r)):=by unfold W7;exact aA [1] Tryz.func312
instance ztf {n a}:CI E0 (Vn n a) true 283 [Au a] aI:=by unfold Vn;exact aA [4] Tryz.func283
instance y0g {n c}:CI E0 (Wd n c) true 238 [Au c] aI:=⟨fun {r} b=>by
 unfold Wd at b;refine cw Tryz.func238 ?_;repeat' first
  |refine aS b (fun v b=>?_) fun b=>?_
  |refine AW.jI2 b (fun v b=>?_) fun b=>?_
  |refine aG b fun b=>?_
  |refine aF [7,10,12,13,17] ?_;conv=>whnf
  |refine aJ b (fun b=>?_) fun b=>?_
  |refine A1.t ?_
  |refine A1.f ?_
  |refine aO b fun a b=>?_
  |exact ⟨_,b,aC []⟩
  |exact ⟨(),b,aC []⟩
  |refine EqX.A ?_
  |exact aD b⟩
def zp0 (r:Int):AV:=aI (r)
theorem zdg {n c r}(b:Hk n c=some r):Con E0 true 237 [Au c,.fn 238 []] (aI r):=by
 induction n generalizing c r
 case zero=>cases b
 case succ n d =>
 unfold Hk at b;refine cw Tryz.func237 ?_;repeat' first
  |refine aE ?_;conv=>whnf
  |refine aJ b (fun b=>?_) fun b=>?_
  |refine aO b fun a b=>?_
  |refine aH b Dg (fun x b=>?_)
  |refine Ab.o b zp0 (fun a h=>d h) (fun a b=>?_)
  |exact ⟨_,b,aC []⟩
  |refine aN b (aC []) fun m v b=>?_
  |exact aD b
instance zyh {n a}:CI E0 (Hk n a) true 237 [Au a,.fn 238 []] aI:=⟨zdg⟩
instance zyl {n a}:CI E0 (Hm n a) true 178 [Au a] aI:=by unfold Hm;exact aA [] Tryz.func178
instance zp6 {n b a}:CI E0 (Ek n b a) true 117 [aI b,aI a] (fun r=>.bool (r)):=by unfold Ek;exact aA [1] Tryz.func117
end
noncomputable section
abbrev z8j {n b a c}:=li (Q6 n b a c) (fun d=>⟨[(0,.sl 11 (a.map B8)),(1,.fn 177 [.ref (Wa b)]),(7,aI (((a.map B8).length:Int))),(8,aI d)],[]⟩) fun _ _=>Q6.eq_2 ..
abbrev z94 {n a f b c d}:=jf (Ir n a f b c d) (fun e=>⟨[(1,.sl 11 (a.map B8)),(2,.ptr 2 0),(5,aI b),(6,.ptr 6 0),(11,.sl 11 (a.map B8)),(12,aI (((a.map B8).length:Int))),(13,aI b),(18,.bool (e))],[(2,.box 26 (B3 f)),(6,.box 216 (Wa d))]⟩) fun _=>Ir.eq_1 ..
abbrev z93 {n a d b}:=li (G8 n a d b) (fun c=>⟨[(1,.sl 11 (a.map B8)),(2,.ptr 2 0),(11,.sl 11 (a.map B8)),(12,aI (((a.map B8).length:Int))),(13,aI c)],[(2,.box 26 (B3 d))]⟩) fun _ _=>G8.eq_2 ..
abbrev z89 {n a b}:=li (Py n a b) (fun c=>⟨[(3,.row 7016),(6,.sl 2 (a.map Bu)),(7,aI (((a.map Bu).length:Int))),(8,aI c.1)],[(7016,.row 3 1 (c.2.map aI))]⟩) fun _ _=>Py.eq_2 ..
abbrev zc1 {n d a b}:=li (Qw n d a b) (fun c=>⟨[(0,.sl 1 (a.map aI)),(1,aI d),(7,aI (((a.map aI).length:Int))),(8,aI c)],[]⟩) fun _ _=>Qw.eq_2 ..
abbrev z91 {n a f c b d}:=li (H4 n a f c b d) (fun e=>⟨[(2,.ptr 2 0),(6,.sl 1 (b.map aI)),(9,.sl 1 (List.map (fun q=>AV.sl 1 (List.map aI q)) (a))),(10,aI ((((List.map (fun q=>AV.sl 1 (List.map aI q)) (a)).length:Nat):Int))),(11,aI c),(15,.sl 1 (b.map aI)),(16,aI (((b.map aI).length:Int))),(17,aI e)],[(2,.box 26 (B3 f))]⟩) fun _ _=>H4.eq_2 ..
abbrev z92 {n a d b}:=li (Iq n a d b) (fun c=>⟨[(2,.ptr 2 0),(9,.sl 1 (List.map (fun q=>AV.sl 1 (List.map aI q)) (a))),(10,aI ((((List.map (fun q=>AV.sl 1 (List.map aI q)) (a)).length:Nat):Int))),(11,aI c)],[(2,.box 26 (B3 d))]⟩) fun _ _=>Iq.eq_2 ..
abbrev z95 {n}:=jf (Iu n) (fun b=>⟨[(2,.bool (b))],[]⟩) fun _=>Iu.eq_1 ..
abbrev z40 {n a b}:=li (Oh n a b) (fun c=>⟨[(0,.sl 2 (a.map Bu)),(1,.fn 182 []),(7,aI (((a.map Bu).length:Int))),(8,aI c)],[]⟩) fun _ _=>Oh.eq_2 ..
attribute [instance] z8j z94 z93 z89 zc1 z91 z92 z95 z40
instance zlv {n b a}:CI E0 (Qi n b a) true 177 [B8 b,.ref (Wa a)] (fun r=>.bool (r)):=by unfold Qi;exact aA [] Tryz.func177
instance zp4 {n a b}:CI E0 (V6 n a b) true 235 [.sl 11 (a.map B8),.fn 177 [.ref (Wa b)]] aI:=by unfold V6;exact aA [] Tryz.func235
instance zkm {n a b}:CI E0 (Q7 n a b) true 175 [.sl 11 (a.map B8),.fn 177 [.ref (Wa b)]] (fun r=>.bool (r)):=by unfold Q7;exact aA [] Tryz.func175
instance zp9 {n d c}:CI E0 (Vb n d c) true 110 [Bi d,.sl 11 (c.map B8)] aI:=⟨fun {r} b=>by
 unfold Vb at b;refine cw Tryz.func110 ?_;repeat' first
  |refine aS b (fun v b=>?_) fun b=>?_
  |refine aG b fun b=>?_
  |refine aF [6] ?_;conv=>whnf
  |refine aJ b (fun b=>?_) fun b=>?_
  |refine A1.t ?_
  |refine aP b fun x b=>?_
  |refine SlsX.o B8 b (fun l b=>?_)
  |refine B7.I b (fun a b=>?_) rfl rfl fun _=>Or.inr rfl
  |refine aO b fun a b=>?_
  |exact ⟨_,b,aC []⟩
  |refine aN b (aC []) fun m v b=>?_
  |exact aD b⟩
instance zoj {n b}:CI E0 (Qn n b) false 180 [.sl 2 (b.map Bu)] (fun r=>.sl 1 (r.map aI)):=⟨fun {r} a=>by
 unfold Qn at a;refine cw Tryz.func180 ?_;repeat' first
  |refine aE ?_;conv=>whnf
  |refine aJ a (fun a=>?_) fun a=>?_
  |refine aP a fun x a=>?_
  |refine AppX.oA a fun l a=>?_
  |exact ⟨_,a,aC [(7016,16)]⟩
  |refine aN a ?_ fun m v a=>?_
  |exact aK (aL 3 7016 3 1 rfl rfl) (aC [])
  |exact aD a⟩
instance zv0 {n b a}:CI E0 (Za n b a) true 95 [.sl 1 (b.map aI),aI a] aI:=by unfold Za;exact aA [] Tryz.func95
instance zqw {n b a}:CI E0 (Dl n b a) true 39 [.sl 1 (b.map aI),aI a] (fun r=>.bool (r)):=by unfold Dl;exact aA [] Tryz.func39
instance zp8 {n d c}:CI E0 (V9 n d c) true 179 [Bi d,.sl 1 (List.map (fun q=>AV.sl 1 (List.map aI q)) (c))] aI:=⟨fun {r} b=>by
 unfold V9 at b;refine cw Tryz.func179 ?_;repeat' first
  |refine aE ?_;conv=>whnf
  |refine aJ b (fun b=>?_) fun b=>?_
  |refine IdxX.o (fun q=>AV.sl 1 (List.map aI q)) b fun x b=>?_
  |exact ⟨_,b,aC []⟩
  |refine aP b fun x b=>?_
  |refine aO b fun a b=>?_
  |refine SlsX.o aI b (fun l b=>?_)
  |refine aN b (aC []) fun m v b=>?_
  |exact aD b⟩
instance zpa {n a}:CI E0 (Iy n a) true 182 [Bu a] (fun r=>.bool (r)):=by unfold Iy;exact aA [1] Tryz.func182
instance zin {n a}:CI E0 (U2 n a) true 190 [.sl 2 (a.map Bu),.fn 182 []] aI:=by unfold U2;exact aA [] Tryz.func190
instance zfm {n a}:CI E0 (Oi n a) true 181 [.sl 2 (a.map Bu),.fn 182 []] (fun r=>.bool (r)):=by unfold Oi;exact aA [] Tryz.func181
end
noncomputable section
abbrev zau {n a d b}:=li (He n a d b) (fun c=>⟨[(3,.ptr 3 0),(4,.ptr 4 0),(63,.sl 8 (a.fChecks.map idA)),(64,aI (((a.fChecks.map idA).length:Int))),(65,aI c)],[(3,.box 26 (B3 d)),(4,.box 149 (Bp a))]⟩) fun _ _=>He.eq_2 ..
abbrev zav {n a c d}:=jf (Df n a c d) (fun b=>⟨[(2,aI a),(3,.ptr 3 0),(4,.ptr 4 0),(12,.bool (b))],[(3,.box 26 (B3 d)),(4,.box 149 (Bp c))]⟩) fun _=>Df.eq_1 ..
abbrev z9y {n a b}:=li (H8 n a b) (fun c=>⟨[(1,.ptr 1 0),(6,aI c.1),(62,.sl 17 (a.fEdges.map A9)),(63,aI (((a.fEdges.map A9).length:Int))),(64,aI c.2)],[(1,.box 26 (B3 a))]⟩) fun _ _=>H8.eq_2 ..
abbrev z9z {n a b}:=li (H9 n a b) (fun c=>⟨[(1,.ptr 1 0),(47,.sl 1 (a.fStates.map Ao)),(48,aI (((a.fStates.map Ao).length:Int))),(49,aI c)],[(1,.box 26 (B3 a))]⟩) fun _ _=>H9.eq_2 ..
abbrev za0 {n a}:=jf (Dw n a) (fun b=>⟨[(1,.ptr 1 0),(29,.bool (b))],[(1,.box 26 (B3 a))]⟩) fun _=>Dw.eq_1 ..
abbrev za1 {n a}:=jf (Dx n a) (fun b=>⟨[(1,.ptr 1 0),(10,.bool (b))],[(1,.box 26 (B3 a))]⟩) fun _=>Dx.eq_1 ..
abbrev z6h {n}:=jf (Ia n) (fun b=>⟨[(2,.bool (b))],[]⟩) fun _=>Ia.eq_1 ..
abbrev z5b {n}:=jf (Gt n) (fun b=>⟨[(58,.bool (b))],[]⟩) fun _=>Gt.eq_1 ..
abbrev z5a {n}:=jf (Ki n) (fun b=>⟨[(70,.bool (b))],[]⟩) fun _=>Ki.eq_1 ..
abbrev z5c {n a}:=jf (Kj n a) (fun b=>⟨[(1,.ptr 1 0),(23,.bool (b))],[(1,.box 381 (Ve a))]⟩) fun _=>Kj.eq_1 ..
abbrev z5d {n a}:=jf (Kk n a) (fun b=>⟨[(1,.ptr 1 0),(15,.bool (b))],[(1,.box 381 (Ve a))]⟩) fun _=>Kk.eq_1 ..
abbrev z7v {n a}:=jt (Il n a) (fun b=>⟨[(4,.ptr 4 0),(8,.ptr 8 0)],[(4,.box 381 [aI 0,aI 0,aI 0,aI 0,.str (ByteArray.empty)]),(8,.box 381 [aI a.fKind,aI ((aB .i64 (a.fCount+1))),aI b.1,aI b.2.1,.str (b.2.2)])]⟩) fun _=>Il.eq_1 ..
abbrev z3x {n a c}:=jf (K5 n a c) (fun b=>⟨[(2,.ptr 2 0),(3,.ptr 3 0),(4,.ptr 4 0),(35,.bool (b))],[(2,.box 381 (Ve c)),(3,.box 144 (Ce a)),(4,.box 144 [aI 0,aI 0,.str (ByteArray.empty)])]⟩) fun _=>K5.eq_1 ..
abbrev z8h {n a d c}:=li (Q4 n a d c) (fun b=>⟨[(1,.sl 3 (d.map Ac)),(5,.ptr 5 0),(6,.ptr 6 0),(8,.ptr 8 0),(9,aI b.1)],[(5,.box 144 (Ce a)),(6,.box 144 [aI 0,aI 0,.str (ByteArray.empty)]),(8,.box 381 [aI b.2.1,aI b.2.2.1,aI b.2.2.2.1,aI b.2.2.2.2.1,.str (b.2.2.2.2.2)])]⟩) fun _ _=>Q4.eq_2 ..
attribute [instance] zau zav z9y z9z za0 za1 z6h z5b z5a z5c z5d z7v z3x z8h
instance zth {n e d c}:CI E0 (J2 n e d c) true 111 [Bi e,A9 d,aI c] aI:=⟨fun {r} b=>by
 unfold J2 at b;refine cw Tryz.func111 ?_;repeat' first
  |refine aS b (fun v b=>?_) fun b=>?_
  |refine aG b fun b=>?_
  |refine aF [1] ?_;conv=>whnf
  |refine aJ b (fun b=>?_) fun b=>?_
  |refine A1.t ?_
  |refine aO b fun a b=>?_
  |refine aH b Dg (fun x b=>?_)
  |exact ⟨_,b,aC []⟩
  |refine aN b (aC []) fun m v b=>?_
  |refine AndA ?_
  |exact aD b⟩
instance zr7 {n a}:CI E0 (Cs n a) true 53 [Bi a] aI:=by unfold Cs;exact aA [1,3] Tryz.func53
instance zlo {n a}:CI E0 (Qe n a) true 348 [aI a] (fun r=>.bool (r)):=by unfold Qe;exact aA [1] Tryz.func348
instance zkg {n a}:CI E0 (Q5 n a) true 358 [E6 a] aI:=by unfold Q5;exact aA [3,5,11,14] Tryz.func358
instance zke {n b a}:CI E0 (Q3 n b a) true 359 [aI b,Ac a] aI:=by unfold Q3;exact aA [] Tryz.func359
instance zh1 {n c b a}:CI E0 (Tk n c b a) true 360 [aI c,Ac b,Ac a] Ac:=by unfold Tk;exact aA [] Tryz.func360
instance zo1 {n b a}:CI E0 (Up n b a) true 349 [E6 b,Ac a] (fun r=>.tup [E6 r.1,aI r.2]):=by unfold Up;exact aA [10,12] Tryz.func349
instance zij {n b a}:CI E0 (Ps n b a) true 350 [E6 b,Ac a] (fun r=>.tup [Ac r.1,aI r.2]):=by unfold Ps;exact aA [9] Tryz.func350
end
noncomputable section
abbrev z3w {n a c}:=jf (K4 n a c) (fun b=>⟨[(1,aI a),(2,.ptr 2 0),(13,.bool (b))],[(2,.box 271 (Dp c))]⟩) fun _=>K4.eq_1 ..
abbrev z69 {n d a b}:=li (Pc n d a b) (fun c=>⟨[(4,.ptr 4 0),(8,.ptr 8 0),(10,.row 7063),(11,.sl 5 (a.map A7)),(12,aI c.1)],[(4,.box 146 (D0 d)),(8,.box 144 [aI 0,aI 0,.str (ByteArray.empty)]),(7063,.row 144 3 (c.2.map Ac))]⟩) fun _ _=>Pc.eq_2 ..
abbrev z1z {n}:=jt (Hx n) (fun b=>⟨[(9,.bool (b))],[]⟩) fun _=>Hx.eq_1 ..
abbrev z20 {n a}:=jt (Gl n a) (fun b=>⟨[(3,aI a),(4,.bool (b))],[]⟩) fun _=>Gl.eq_1 ..
abbrev z1y {n a e b c}:=jf (Fp n a e b c) (fun d=>⟨[(0,aI e),(1,.sl 1 (a.map aI)),(5,aI b),(38,.bool (d))],[]⟩) fun _=>Fp.eq_1 ..
abbrev z1x {n a d b}:=li (F4 n a d b) (fun c=>⟨[(0,aI d),(1,.sl 1 (a.map aI)),(5,aI c)],[]⟩) fun _ _=>F4.eq_2 ..
abbrev z52 {n}:=jf (Kf n) (fun b=>⟨[(4,.ptr 4 0)],[(4,.box 144 [aI b.1,aI b.2.1,.str (b.2.2)])]⟩) fun _=>Kf.eq_1 ..
abbrev z51 {n}:=jf (Ke n) (fun b=>⟨[(4,.ptr 4 0)],[(4,.box 144 [aI b.1,aI b.2.1,.str (b.2.2)])]⟩) fun _=>Ke.eq_1 ..
abbrev z6g {n b a e f g d}:=li (Pd n b a e f g d) (fun c=>⟨[(2,aI e),(4,.ptr 4 0),(5,.ptr 5 0),(7,.ptr 7 0),(8,.ptr 8 0),(10,.row 7053),(11,.row 7058),(12,aI c.1)],[(4,.box 146 (D0 g)),(5,.box 271 (Dp f)),(7,.box 37 (Bo a)),(8,.box 144 [aI 0,aI 0,.str (ByteArray.empty)]),(7053,.row 144 3 (c.2.1.map Ac)),(7058,.row 3 1 (c.2.2.map aI))]⟩) fun _ _=>Pd.eq_2 ..
abbrev z54 {n}:=jf (Kg n) (fun b=>⟨[(8,.bool (b))],[]⟩) fun _=>Kg.eq_1 ..
attribute [instance] z3w z69 z1z z20 z1y z1x z52 z51 z6g z54
instance zp3 {n c b a}:CI E0 (Qo n c b a) true 344 [aI c,.sl 3 (b.map Ac),Ac a] (fun r=>.tup [Ac r.1,aI r.2]):=by unfold Qo;exact aA [] Tryz.func344
instance zii {n c b}:CI E0 (Lb n c b) false 343 [Dn c,aI b] (fun r=>.sl 5 (r.map A7)):=⟨fun {r} a=>by
 unfold Lb at a;refine cw Tryz.func343 ?_;repeat' first
  |refine aS a (fun v a=>?_) fun a=>?_
  |refine aG a fun a=>?_
  |refine aF [1] ?_;conv=>whnf
  |refine aJ a (fun a=>?_) fun a=>?_
  |refine IdxX.o (fun q=>AV.sl 5 (List.map A7 q)) a fun x a=>?_
  |exact ⟨_,a,aC []⟩
  |exact aD a⟩
instance zlk {n d c b a}:CI E0 (Yo n d c b a) false 345 [Dn d,aI c,aI b,A7 a] (fun r=>.tup [A7 r.1,.bool (r.2)]):=by unfold Yo;exact aA [] Tryz.func345
instance zli {n f e d c}:CI E0 (Qd n f e d c) true 336 [Au f,Dn e,aI d,A7 c] (fun r=>.tup [Ac r.1,aI r.2]):=⟨fun {r} b=>by
 unfold Qd at b;refine cw Tryz.func336 ?_;repeat' first
  |refine aE ?_;conv=>whnf
  |refine aJ b (fun b=>?_) fun b=>?_
  |refine aO b fun a b=>?_
  |refine B7.I b (fun a b=>?_) rfl rfl fun _=>Or.inr rfl
  |refine aP b fun x b=>?_
  |refine AppX.oA b fun l b=>?_
  |exact ⟨_,b,aC [(7063,63)]⟩
  |refine aN b ?_ fun m v b=>?_
  |exact aK (aL 10 7063 144 3 rfl rfl) (aC [])
  |refine AndA ?_
  |exact aD b⟩
instance zg6 {n a}:CI E0 (Tg n a) true 346 [aI a] aI:=by unfold Tg;exact aA [2,3,4,7,8] Tryz.func346
instance zg5 {n b a}:CI E0 (Xn n b a) true 337 [aI b,.sl 1 (a.map aI)] aI:=by unfold Xn;exact aA [5] Tryz.func337
instance zlm {n a}:CI E0 (Du n a) true 98 [.bool (a)] Ac:=by unfold Du;exact aA [] Tryz.func98
instance zk9 {n b a}:CI E0 (Lj n b a) true 338 [aI b,.sl 3 (a.map Ac)] Ac:=by unfold Lj;exact aA [13,15] Tryz.func338
def za6 (r:A8×Int):AV:=.tup [.agg [aI (r.1.fKind),aI (r.1.fNum),.str (r.1.fText)],aI (r.2)]
theorem z5r {n f e d c r}(b:H6 n f e d c=some r):Con E0 true 322 [Au f,Dn e,aI d,A7 c] (.tup [Ac r.1,aI r.2]):=by
 induction n generalizing f e d c r
 case zero=>cases b
 case succ n g =>
 unfold H6 at b;refine cw Tryz.func322 ?_;repeat' first
  |refine aE ?_;conv=>whnf
  |refine aJ b (fun b=>?_) fun b=>?_
  |refine aO b fun a b=>?_
  |refine B7.I b (fun a b=>?_) rfl rfl fun _=>Or.inr rfl
  |refine aH b Dg (fun x b=>?_)
  |refine Ab.o b za6 (fun a h=>g h) (fun a b=>?_)
  |refine AppX.oA b fun l b=>?_
  |exact ⟨_,b,aC [(7053,53),(7058,58)]⟩
  |refine aN b ?_ fun m v b=>?_
  |exact aK (aL 10 7053 144 3 rfl rfl) (aK (aL 11 7058 3 1 rfl rfl) (aC []))
  |refine AndA ?_
  |exact aD b
instance zll {n d c b a}:CI E0 (H6 n d c b a) true 322 [Au d,Dn c,aI b,A7 a] (fun r=>.tup [Ac r.1,aI r.2]):=⟨z5r⟩
instance zln {n d c b a}:CI E0 (Yp n d c b a) true 309 [Au d,Dn c,aI b,A7 a] (fun r=>.tup [Ac r.1,aI r.2]):=by unfold Yp;exact aA [] Tryz.func309
end
noncomputable section
abbrev z2v {n a f b c d}:=jf (Jv n a f b c d) (fun e=>⟨[(2,.ptr 2 0),(3,.ptr 3 0),(5,aI b),(18,.bool (e))],[(2,.box 64 (Mq f)),(3,.box 64 (Mq a))]⟩) fun _=>Jv.eq_1 ..
abbrev z2u {n a d b}:=li (I1 n a d b) (fun c=>⟨[(2,.ptr 2 0),(3,.ptr 3 0),(5,aI c)],[(2,.box 64 (Mq d)),(3,.box 64 (Mq a))]⟩) fun _ _=>I1.eq_2 ..
abbrev z2q {n a g b c d e}:=jf (I0 n a g b c d e) (fun f=>⟨[(2,.ptr 2 0),(3,.ptr 3 0),(6,aI b),(7,.ptr 7 0),(8,.ptr 8 0),(71,.bool (f))],[(2,.box 90 (C7 g)),(3,.box 90 (C7 a)),(7,.box 182 (zat d)),(8,.box 182 (zat e))]⟩) fun _=>I0.eq_1 ..
abbrev z2r {n a f b c d}:=jf (Jt n a f b c d) (fun e=>⟨[(2,.ptr 2 0),(3,.ptr 3 0),(6,aI b),(40,.bool (e))],[(2,.box 90 (C7 f)),(3,.box 90 (C7 a))]⟩) fun _=>Jt.eq_1 ..
abbrev z2p {n a d b}:=li (Hz n a d b) (fun c=>⟨[(2,.ptr 2 0),(3,.ptr 3 0),(6,aI c)],[(2,.box 90 (C7 d)),(3,.box 90 (C7 a))]⟩) fun _ _=>Hz.eq_2 ..
abbrev z7f {n a d b}:=jf (L4 n a d b) (fun c=>⟨[(0,.sl 3 (d.map Ai)),(3,.ptr 3 0),(5,aI b),(34,.bool (c))],[(3,.box 90 (C7 a))]⟩) fun _=>L4.eq_1 ..
abbrev z7e {n a f b c d}:=jf (L3 n a f b c d) (fun e=>⟨[(0,.sl 3 (f.map Ai)),(3,.ptr 3 0),(5,aI b),(19,.bool (e))],[(3,.box 90 (C7 a))]⟩) fun _=>L3.eq_1 ..
abbrev z7d {n a d b}:=li (Ig n a d b) (fun c=>⟨[(0,.sl 3 (d.map Ai)),(3,.ptr 3 0),(5,aI c)],[(3,.box 90 (C7 a))]⟩) fun _ _=>Ig.eq_2 ..
abbrev za3 {n}:=jf (Iv n) (fun b=>⟨[(2,.bool (b))],[]⟩) fun _=>Iv.eq_1 ..
abbrev za2 {n}:=jf (Ha n) (fun b=>⟨[(4,.bool (b))],[]⟩) fun _=>Ha.eq_1 ..
attribute [instance] z2v z2u z2q z2r z2p z7f z7e z7d za3 za2
instance zka {n d c b a}:CI E0 (G4 n d c b a) true 268 [Au d,Dn c,aI b,A7 a] (fun r=>.bool (r)):=by unfold G4;exact aA [2] Tryz.func268
instance zkh {n b a}:CI E0 (Ll n b a) true 37 [Bn b,Bn a] aI:=by unfold Ll;exact aA [] Tryz.func37
instance zk4 {n b a}:CI E0 (U6 n b a) true 79 [B6 b,B6 a] aI:=by unfold U6;exact aA [] Tryz.func79
instance zh0 {n b a}:CI E0 (Kt n b a) true 24 [Az b,Az a] aI:=by unfold Kt;exact aA [2] Tryz.func24
instance zgy {n b a}:CI E0 (I7 n b a) true 41 [Ai b,Ai a] aI:=by unfold I7;exact aA [9,12] Tryz.func41
instance znt {n d c}:CI E0 (Ls n d c) false 172 [.sl 3 (d.map Ai),Ai c] (fun r=>.sl 3 (r.map Ai)):=⟨fun {r} b=>by
 unfold Ls at b;refine cw Tryz.func172 ?_;repeat' first
  |refine aS b (fun v b=>?_) fun b=>?_
  |refine aG b fun b=>?_
  |refine aF [2,4] ?_;conv=>whnf
  |refine aJ b (fun b=>?_) fun b=>?_
  |refine SlsX.o Ai b (fun l b=>?_)
  |refine AppX.oA0 b fun l b=>?_
  |refine AppX.oA b fun l b=>?_
  |refine aP b fun x b=>?_
  |refine aO b fun a b=>?_
  |exact ⟨_,b,aC []⟩
  |refine aN b (aC []) fun m v b=>?_
  |refine AndA ?_
  |exact aD b⟩
instance zra {n a}:CI E0 (R6 n a) true 351 [aI a] (fun r=>.bool (r)):=by unfold R6;exact aA [1] Tryz.func351
instance zr9 {n b a}:CI E0 (R5 n b a) true 361 [aI b,Ac a] (fun r=>.bool (r)):=by unfold R5;exact aA [1] Tryz.func361
instance zr8 {n b a}:CI E0 (M4 n b a) true 352 [aI b,Ac a] aI:=by unfold M4;exact aA [] Tryz.func352
instance zpd {n b a}:CI E0 (Yy n b a) true 356 [aI b,Ac a] Ac:=by unfold Yy;exact aA [] Tryz.func356
instance zkt {n}:CI E0 (Yl n) true 364 [] Ac:=by unfold Yl;exact aA [] Tryz.func364
def z9p (b:A8)(a:A8):List (Nat×Ent):=[(100000,.box 144 (Ce b)),(100001,.box 144 (Ce a))]
def Yb (r:A8×A8×A8):List (Nat×Ent):=[(2,.box 144 (Ce r.1)),(100000,.box 144 (Ce r.2.1)),(100001,.box 144 (Ce r.2.2))]
def z0p (r:A8×A8×A8):AV:=.agg [aI (r.1.fKind),aI (r.1.fNum),.str (r.1.fText)]
def z9e (r:A8×A8×A8):AS:=⟨[(2,.ptr 2 0),(0,.ptr 100000 0),(1,.ptr 100001 0)],Yb r⟩
end
noncomputable section
abbrev z97 {n c a d}:=li (Qc n c a d) (fun b=>⟨[(2,.fn 354 [.ref [aI c]]),(3,.ptr 3 0),(6,.ptr 6 0),(9,.sl 3 (a.map Ac)),(10,aI (((a.map Ac).length:Int))),(11,aI b.1)],[(3,.box 381 [aI b.2.1,aI b.2.2.1,aI b.2.2.2.1,aI b.2.2.2.2.1,.str (b.2.2.2.2.2)]),(6,.box 381 [aI 0,aI 0,aI 0,aI 0,.str (ByteArray.empty)])]⟩) fun _ _=>Qc.eq_2 ..
abbrev za4 {n a}:=jf (Lq n a) (fun b=>⟨[(1,.ptr 1 0),(10,.bool (b))],[(1,.box 381 (Ve a))]⟩) fun _=>Lq.eq_1 ..
abbrev z98 {n a c}:=jf (Lo n a c) (fun b=>⟨[(2,.ptr 2 0),(3,.ptr 3 0),(4,.ptr 4 0),(29,.bool (b))],[(2,.box 381 (Ve c)),(3,.box 144 (Ce a)),(4,.box 144 [aI 0,aI 0,.str (ByteArray.empty)])]⟩) fun _=>Lo.eq_1 ..
abbrev zci {n d a e b}:=li (R7 n d a e b) (fun c=>⟨[(1,.sl 3 (a.map Ac)),(3,.ptr 3 0),(5,.ptr 5 0),(6,.ptr 6 0),(22,.sl 3 (a.map Ac)),(23,aI (((a.map Ac).length:Int))),(24,aI c)],[(3,.box 3 [aI e]),(5,.box 144 (Ce d)),(6,.box 144 [aI 0,aI 0,.str (ByteArray.empty)])]⟩) fun _ _=>R7.eq_2 ..
attribute [instance] z97 za4 z98 zci
theorem z71 {n b a r}(c:Yk n b a=some r):ConG E0.P none (CalF E0.P 365 0) [.ptr 100000 0,.ptr 100001 0] [] (z9p b a) (z0p r) (Yb r):=by
 unfold Yk at c;refine aM (E:=(E0p 2)) (caps:=[]) _ aU rfl rfl rfl rfl rfl ?_;repeat' first
  |refine aE ?_;conv=>whnf
  |exact GX.A (res:=z0p) (meF:=Yb) c z9e
def z9o (b:A8)(a:A8):List (Nat×Ent):=[(100000,.box 144 (Ce b)),(100001,.box 144 (Ce a))]
def Ya (r:A8×A8×A8):List (Nat×Ent):=[(2,.box 144 (Ce r.1)),(100000,.box 144 (Ce r.2.1)),(100001,.box 144 (Ce r.2.2))]
def z0o (r:A8×A8×A8):AV:=.agg [aI (r.1.fKind),aI (r.1.fNum),.str (r.1.fText)]
def z9d (r:A8×A8×A8):AS:=⟨[(2,.ptr 2 0),(0,.ptr 100000 0),(1,.ptr 100001 0)],Ya r⟩
theorem z6z {n b a r}(c:Yj n b a=some r):ConG E0.P none (CalF E0.P 366 0) [.ptr 100000 0,.ptr 100001 0] [] (z9o b a) (z0o r) (Ya r):=by
 unfold Yj at c;refine aM (E:=(E0p 2)) (caps:=[]) _ aV rfl rfl rfl rfl rfl ?_;repeat' first
  |refine aE ?_;conv=>whnf
  |exact GX.A (res:=z0o) (meF:=Ya) c z9d
def z9n (b:A8)(a:A8):List (Nat×Ent):=[(100000,.box 144 (Ce b)),(100001,.box 144 (Ce a))]
def Y9 (r:A8×A8×A8):List (Nat×Ent):=[(2,.box 144 (Ce r.1)),(100000,.box 144 (Ce r.2.1)),(100001,.box 144 (Ce r.2.2))]
def z0n (r:A8×A8×A8):AV:=.agg [aI (r.1.fKind),aI (r.1.fNum),.str (r.1.fText)]
def z9c (r:A8×A8×A8):AS:=⟨[(2,.ptr 2 0),(0,.ptr 100000 0),(1,.ptr 100001 0)],Y9 r⟩
theorem z6y {n b a r}(c:Yi n b a=some r):ConG E0.P none (CalF E0.P 367 0) [.ptr 100000 0,.ptr 100001 0] [] (z9n b a) (z0n r) (Y9 r):=by
 unfold Yi at c;refine aM (E:=(E0p 2)) (caps:=[]) _ aW rfl rfl rfl rfl rfl ?_;repeat' first
  |refine aE ?_;conv=>whnf
  |exact GX.A (res:=z0n) (meF:=Y9) c z9c
def z9m (a:A8):List (Nat×Ent):=[(100000,.box 144 (Ce a))]
def Y8 (r:A8×A8):List (Nat×Ent):=[(1,.box 144 (Ce r.1)),(100000,.box 144 (Ce r.2))]
def z0m (r:A8×A8):AV:=.agg [aI (r.1.fKind),aI (r.1.fNum),.str (r.1.fText)]
def z9b (r:A8×A8):AS:=⟨[(1,.ptr 1 0),(0,.ptr 100000 0)],Y8 r⟩
theorem z6x {n a r}(b:Yh n a=some r):ConG E0.P none (CalF E0.P 368 0) [.ptr 100000 0] [] (z9m a) (z0m r) (Y8 r):=by
 unfold Yh at b;refine aM (E:=(E0p 1)) (caps:=[]) _ aX rfl rfl rfl rfl rfl ?_;repeat' first
  |refine aE ?_;conv=>whnf
  |exact GX.A (res:=z0m) (meF:=Y8) b z9b
def z9l (a:A8):List (Nat×Ent):=[(100000,.box 144 (Ce a))]
def Y7 (r:A8×A8):List (Nat×Ent):=[(1,.box 144 (Ce r.1)),(100000,.box 144 (Ce r.2))]
def z0l (r:A8×A8):AV:=.agg [aI (r.1.fKind),aI (r.1.fNum),.str (r.1.fText)]
def z9a (r:A8×A8):AS:=⟨[(1,.ptr 1 0),(0,.ptr 100000 0)],Y7 r⟩
theorem z6w {n a r}(b:Yg n a=some r):ConG E0.P none (CalF E0.P 369 0) [.ptr 100000 0] [] (z9l a) (z0l r) (Y7 r):=by
 unfold Yg at b;refine aM (E:=(E0p 1)) (caps:=[]) _ aY rfl rfl rfl rfl rfl ?_;repeat' first
  |refine aE ?_;conv=>whnf
  |exact GX.A (res:=z0l) (meF:=Y7) b z9a
instance zol {n e d c}:CI E0 (V4 n e d c) true 362 [aI e,Ac d,Ac c] Ac:=⟨fun {r} b=>by
 unfold V4 at b;refine cw Tryz.func362 ?_;repeat' first
  |refine aE ?_;conv=>whnf
  |refine NatX.oS b rfl (fun b=>?_) (fun b=>?_)
  |(cases b;done)
  |refine aO b fun a b=>?_
  |refine B7.oM (Bg 15 b) [(100000,4),(100001,5)] [(2,16000000),(100000,4),(100001,5)] _ _ Yb z0p [] (fun a h=>aR (z71 h)) (B0 aU rfl rfl) rfl rfl rfl ⟨⟨rfl,rfl⟩,⟨⟨rfl,rfl⟩,trivial⟩⟩ (fun a=>⟨rfl,rfl,rfl,rfl,rfl,rfl,rfl,rfl⟩) (fun a b=>?_)
  |refine B7.oM (Bg 15 b) [(100000,4),(100001,5)] [(2,16000000),(100000,4),(100001,5)] _ _ Ya z0o [] (fun a h=>aR (z6z h)) (B0 aV rfl rfl) rfl rfl rfl ⟨⟨rfl,rfl⟩,⟨⟨rfl,rfl⟩,trivial⟩⟩ (fun a=>⟨rfl,rfl,rfl,rfl,rfl,rfl,rfl,rfl⟩) (fun a b=>?_)
  |refine B7.oM (Bg 15 b) [(100000,4),(100001,5)] [(2,16000000),(100000,4),(100001,5)] _ _ Y9 z0n [] (fun a h=>aR (z6y h)) (B0 aW rfl rfl) rfl rfl rfl ⟨⟨rfl,rfl⟩,⟨⟨rfl,rfl⟩,trivial⟩⟩ (fun a=>⟨rfl,rfl,rfl,rfl,rfl,rfl,rfl,rfl⟩) (fun a b=>?_)
  |refine B7.oM (Bg 15 b) [(100000,4)] [(1,16000000),(100000,4)] _ _ Y8 z0m [] (fun a h=>aR (z6x h)) (B0 aX rfl rfl) rfl rfl rfl ⟨⟨rfl,rfl⟩,trivial⟩ (fun a=>⟨rfl,rfl,rfl,rfl,rfl,rfl,rfl,rfl⟩) (fun a b=>?_)
  |refine B7.oM (Bg 15 b) [(100000,5)] [(1,16000000),(100000,5)] _ _ Y7 z0l [] (fun a h=>aR (z6w h)) (B0 aY rfl rfl) rfl rfl rfl ⟨⟨rfl,rfl⟩,trivial⟩ (fun a=>⟨rfl,rfl,rfl,rfl,rfl,rfl,rfl,rfl⟩) (fun a b=>?_)
  |exact aD b⟩
instance zpe {n b a}:CI E0 (Yz n b a) true 355 [E6 b,E6 a] E6:=by unfold Yz;exact aA [] Tryz.func355
instance zti {n c b a}:CI E0 (Z6 n c b a) true 354 [E6 c,Ac b,.ref [aI a]] E6:=by unfold Z6;exact aA [] Tryz.func354
instance zpf {n c a b}:CI E0 (Vd n c a b) true 353 [E6 c,.sl 3 (a.map Ac),.fn 354 [.ref [aI b]]] E6:=by unfold Vd;exact aA [] Tryz.func353
instance zrb {n a}:CI E0 (Vm n a) true 363 [E6 a] aI:=by unfold Vm;exact aA [3,7,9,11,6] Tryz.func363
instance zpg {n b a}:CI E0 (Qu n b a) true 357 [E6 b,Ac a] (fun r=>.tup [Ac r.1,aI r.2]):=by unfold Qu;exact aA [9] Tryz.func357
instance zva {n e d c}:CI E0 (Rq n e d c) true 347 [aI e,.sl 3 (d.map Ac),Ac c] (fun r=>.tup [Ac r.1,aI r.2]):=⟨fun {r} b=>by
 unfold Rq at b;refine cw Tryz.func347 ?_;repeat' first
  |refine aE ?_;conv=>whnf
  |refine aJ b (fun b=>?_) fun b=>?_
  |refine aO b fun a b=>?_
  |refine B7.I b (fun a b=>?_) rfl rfl fun _=>Or.inr rfl
  |refine aP b fun x b=>?_
  |exact ⟨_,b,aC []⟩
  |refine aN b (aC []) fun m v b=>?_
  |exact aD b⟩
instance y0l {n a}:CI E0 (Wf n a) true 207 [aI a] (fun r=>.bool (r)):=by unfold Wf;exact aA [] Tryz.func207
instance zxp {n b a}:CI E0 (Cz n b a) true 133 [aI b,aI a] aI:=by unfold Cz;exact aA [] Tryz.func133
end
noncomputable section
abbrev zrc {n a b}:=li (Rw n a b) (fun c=>⟨[(3,aI 0),(6,.sl 1 (a.map aI)),(7,aI (((a.map aI).length:Int))),(8,aI c)],[]⟩) fun _ _=>Rw.eq_2 ..
abbrev z6i {n d a b}:=li (Pe n d a b) (fun c=>⟨[(0,.sl 4 (a.map B6)),(1,.sl 4 (d.map B6)),(2,.fn 130 []),(11,.sl 4 (a.map B6)),(12,aI (((a.map B6).length:Int))),(13,aI c)],[]⟩) fun _ _=>Pe.eq_2 ..
abbrev z21 {n d a b}:=li (Nu n d a b) (fun c=>⟨[(0,.sl 2 (a.map Aj)),(1,.sl 2 (d.map Aj)),(2,.fn 204 []),(11,.sl 2 (a.map Aj)),(12,aI (((a.map Aj).length:Int))),(13,aI c)],[]⟩) fun _ _=>Nu.eq_2 ..
abbrev ze7 {n}:=jf (F8 n) (fun b=>⟨[(2,.bool (b))],[]⟩) fun _=>F8.eq_1 ..
abbrev z3y {n b a c}:=li (Oe n b a c) (fun d=>⟨[(0,.sl 4 (a.map B6)),(1,.fn 227 [.ref (Bo b)]),(7,aI (((a.map B6).length:Int))),(8,aI d)],[]⟩) fun _ _=>Oe.eq_2 ..
abbrev z3z {n b a c}:=li (Og n b a c) (fun d=>⟨[(0,.sl 3 (a.map Ai)),(1,.fn 167 [.ref (Bo b)]),(7,aI (((a.map Ai).length:Int))),(8,aI d)],[]⟩) fun _ _=>Og.eq_2 ..
attribute [instance] zrc z6i z21 ze7 z3y z3z
instance y3y {n a}:CI E0 (Ep n a) true 131 [.sl 1 (a.map aI)] aI:=by unfold Ep;exact aA [] Tryz.func131
instance zyg {n b a}:CI E0 (W6 n b a) true 132 [Bn b,Bn a] aI:=by unfold W6;exact aA [] Tryz.func132
instance zr2 {n b a}:CI E0 (Vj n b a) true 130 [B6 b,B6 a] aI:=by unfold Vj;exact aA [] Tryz.func130
instance zlq {n b a}:CI E0 (Uh n b a) true 129 [.sl 4 (b.map B6),.sl 4 (a.map B6),.fn 130 []] aI:=by unfold Uh;exact aA [] Tryz.func129
instance zuo {n b a}:CI E0 (Ri n b a) true 64 [Az b,Az a] aI:=by unfold Ri;exact aA [] Tryz.func64
instance zuj {n b a}:CI E0 (Vs n b a) true 204 [Aj b,Aj a] aI:=by unfold Vs;exact aA [] Tryz.func204
instance zg7 {n b a}:CI E0 (Th n b a) true 203 [.sl 2 (b.map Aj),.sl 2 (a.map Aj),.fn 204 []] aI:=by unfold Th;exact aA [] Tryz.func203
instance zxl {n b a}:CI E0 (Vx n b a) true 125 [Ai b,Ai a] aI:=by unfold Vx;exact aA [] Tryz.func125
instance zyb {n a}:CI E0 (W3 n a) true 166 [A7 a] (fun r=>.bool (r)):=by unfold W3;exact aA [1] Tryz.func166
instance y3o {n a}:CI E0 (Ja n a) true 122 [A7 a] Bn:=by unfold Ja;exact aA [] Tryz.func122
instance y1f {n b a}:CI E0 (Mt n b a) true 165 [Bn b,Bn a] aI:=by unfold Mt;exact aA [] Tryz.func165
instance zyc {n b a}:CI E0 (Mm n b a) true 227 [B6 b,.ref (Bo a)] (fun r=>.bool (r)):=by unfold Mm;exact aA [] Tryz.func227
instance zil {n a b}:CI E0 (U0 n a b) true 273 [.sl 4 (a.map B6),.fn 227 [.ref (Bo b)]] aI:=by unfold U0;exact aA [] Tryz.func273
instance zfk {n a b}:CI E0 (Tc n a b) true 226 [.sl 4 (a.map B6),.fn 227 [.ref (Bo b)]] (fun r=>.bool (r)):=by unfold Tc;exact aA [] Tryz.func226
instance y1g {n d c}:CI E0 (Zy n d c) true 168 [Ai d,A7 c] (fun r=>.bool (r)):=⟨fun {r} b=>by
 unfold Zy at b;refine cw Tryz.func168 ?_;repeat' first
  |refine aE ?_;conv=>whnf
  |refine B7.I b (fun a b=>?_) rfl rfl fun _=>Or.inr rfl
  |exact aD b⟩
instance zye {n b a}:CI E0 (Mn n b a) true 167 [Ai b,.ref (Bo a)] (fun r=>.bool (r)):=by unfold Mn;exact aA [] Tryz.func167
instance zim {n a b}:CI E0 (U1 n a b) true 147 [.sl 3 (a.map Ai),.fn 167 [.ref (Bo b)]] aI:=by unfold U1;exact aA [] Tryz.func147
instance zfl {n a b}:CI E0 (Td n a b) true 76 [.sl 3 (a.map Ai),.fn 167 [.ref (Bo b)]] (fun r=>.bool (r)):=by unfold Td;exact aA [] Tryz.func76
instance y1h {n d c}:CI E0 (Wk n d c) true 97 [.sl 3 (d.map Ai),A7 c] aI:=⟨fun {r} b=>by
 unfold Wk at b;refine cw Tryz.func97 ?_;repeat' first
  |refine aE ?_;conv=>whnf
  |refine aJ b (fun b=>?_) fun b=>?_
  |refine aO b fun a b=>?_
  |refine B7.I b (fun a b=>?_) rfl rfl fun _=>Or.inr rfl
  |exact aD b⟩
end
end Go.Proofs.YthbogefcfhmpgaaGreat
