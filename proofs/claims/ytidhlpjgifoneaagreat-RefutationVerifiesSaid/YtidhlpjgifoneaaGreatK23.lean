/- What some functions compute, over plain values. -/
import Derived.Test.YtidhlpjgifoneaaGreatK21
import Derived.Test.YtidhlpjgifoneaaGreatK22
set_option linter.unusedVariables false
set_option linter.unusedSimpArgs false
set_option maxRecDepth 100000
set_option maxHeartbeats 8000000
namespace Go.Proofs.YtidhlpjgifoneaaGreat
open Go.RowKit
open IntKind renaming wrap->aA
open LeX renaming a->aB
open RetX renaming oB->aC
open CI renaming w->aD
open AW renaming stepU->aE,regO->aG,step->aJ
open IdxX renaming oD->aF
noncomputable section
def Dn (n:Nat)(b:B0->(List Bool)->Option ((List Bool)))(a:B0)(d:(List Bool)->Option ((List Bool))):Nat->Int×(List Bool)->Option ((List Bool)) |0,_=>none |e+1,c=>cnd (decide (c.1<((a.fArgs.map idA).length:Int))) (idxD C3 a.fArgs c.1 fun f=>bndM 43 (b f c.2) fun g=>(Dn n b a d e) ((aA .i64 (c.1+1)),g))<|d c.2
def P6 (n:Nat)(b:B0->(List Bool)->Option ((List Bool)))(a:B0)(d:(List Bool)->Option ((List Bool))):Nat->Int×(List Bool)->Option ((List Bool)) |0,_=>none |e+1,c=>cnd (decide (c.1<((a.fArgs.map idA).length:Int))) (idxD C3 a.fArgs c.1 fun f=>bndM 43 (b f c.2) fun g=>(P6 n b a d e) ((aA .i64 (c.1+1)),g))<|d c.2
def P5 (n:Nat)(b:B0->(List Bool)->Option ((List Bool)))(a:B0)(d:(List Bool)->Option ((List Bool))):Nat->Int×(List Bool)->Option ((List Bool)) |0,_=>none |e+1,c=>cnd (decide (c.1<((a.fArgs.map idA).length:Int))) (idxD C3 a.fArgs c.1 fun f=>bndM 43 (b f c.2) fun g=>(P5 n b a d e) ((aA .i64 (c.1+1)),g))<|d c.2
def P4 (n:Nat)(b:B0->(List Bool)->Option ((List Bool)))(a:B0)(d:(List Bool)->Option ((List Bool))):Nat->Int×(List Bool)->Option ((List Bool)) |0,_=>none |e+1,c=>cnd (decide (c.1<((a.fArgs.map idA).length:Int))) (idxD C3 a.fArgs c.1 fun f=>bndM 43 (b f c.2) fun g=>(P4 n b a d e) ((aA .i64 (c.1+1)),g))<|d c.2
def E2:Nat->B0->(List Bool)->Option ((List Bool)) |0,_,_=>none |n+1,a,f=>bnd (R9 n a.fOp) fun i=>cnd (i.1) (cnd (decide (0<=a.fVar)) (cnd (decide (a.fVar<((f.map AV.bool).length:Int))) (nat a.fVar (f.map AV.bool).length fun h=>stx f h (fun j=>true) fun g=>Dn n (E2 n) a (fun b=>some b) n (0,g))<|P6 n (E2 n) a (fun c=>some c) n (0,f))<|P5 n (E2 n) a (fun d=>some d) n (0,f))<|P4 n (E2 n) a (fun e=>some e) n (0,f)
def Hq (n:Nat)(a:(List Bool))(c:(List Int)->Option ((List Int))):Nat->Int×(List Int)->Option ((List Int)) |0,_=>none |d+1,b=>cnd (decide (b.1<((a.map AV.bool).length:Int))) (reg<|nat b.1 (a.map AV.bool).length fun e=>elt a e fun f=>cnd (f) (app b.2 [b.1] 8 fun g=>(Hq n a c d) ((aA .i64 (b.1+1)),g))<|(Hq n a c d) ((aA .i64 (b.1+1)),b.2))<|c b.2
def Te (n:Nat)(d:B0):Option ((List Int)):=mak 16 1 (false:Bool) fun c=>bndM 9 (E2 n d c) fun a=>Hq n a (fun b=>some b) n (0,[])
def P0 (n:Nat)(a:(List Int))(c:(List Bool)->Option ((List Bool))):Nat->Int×(List Bool)->Option ((List Bool)) |0,_=>none |d+1,b=>cnd (decide (b.1<((a.map aI).length:Int))) (idx a b.1 fun e=>nat e (b.2.map AV.bool).length fun f=>stx b.2 f (fun h=>true) fun g=>(P0 n a c d) ((aA .i64 (b.1+1)),g))<|c b.2
def Lk (n:Nat)(d:B0)(c:(List Bool)):Option ((List Bool)):=bnd (Te n d) fun a=>P0 n a (fun b=>some b) n (0,c)
def Qd (n:Nat)(b:(List B4)×Int×(List Bool))(d:(List Bool)->Option ((List Bool))):Nat->Int×(List Bool)->Option ((List Bool)) |0,_=>none |e+1,c=>idx b.1 b.2.1 fun f=>cnd (decide (c.1<((f.fChecks.map idA).length:Int))) (idx b.1 b.2.1 fun g=>idxD C3 g.fChecks c.1 fun h=>bndM 66 (Lk n h c.2) fun j=>(Qd n b d e) ((aA .i64 (c.1+1)),j))<|d c.2
def Gx (n:Nat)(c:(List Bool)->Option ((List Bool))):Nat->(List B4)×Int×(List Bool)->Option ((List Bool)) |0,_=>none |e+1,b=>cnd (decide (b.2.1<((b.1.map B6).length:Int))) (idx b.1 b.2.1 fun f=>bndM 46 (Lk n f.fCond b.2.2) fun g=>Qd n b (fun d=>(Gx n c e) (b.1,(aA .i64 (b.2.1+1)),d)) n (0,g))<|c b.2.2
def Lj (n:Nat)(g:Int)(h:Ah)(a:G4)(c:(List Bool)->Option ((List Bool))):Nat->Int×(List Bool)->Option ((List Bool)) |0,_=>none |d+1,b=>cnd (decide (b.1<((a.fGuards.map Bc).length:Int))) (idx a.fGuards b.1 fun e=>bndM 30 (Lk n e.fCond b.2) fun f=>(Lj n g h a c d) ((aA .i64 (b.1+1)),f))<|c b.2
def Ul (n:Nat)(e:Ah)(a:Int):Option ((List Bool)):=mak 16 1 (false:Bool) fun g=>idx e.fStates a fun f=>Lj n a e f (fun b=>bnd (Ix n e a) fun d=>Gx n (fun c=>some c) n (d,0,b)) n (0,g)
def Hx (n:Nat)(a:Ah)(c:Nat)(w:Int×(Ars (List Bool)))(y:Int×(Ars (List Bool)))(d:B4)(b:Int×(Ars (List Bool)))(g:(Ars (List Bool))->Option ((List (List Bool))))(f:(Int×(Ars (List Bool)))->Option ((List (List Bool))))(k:Bool):Option ((List (List Bool))):=cnd (k) (reg<|ncx d.fFrom c<|aob b.2 (Int.toNat d.fFrom) fun e=>ncx d.fFrom c<|aob b.2 (Int.toNat d.fFrom) fun h=>aix b.2 h b.1 fun l=>ald b.2 h l fun o=>cnd (o) (aix b.2 e b.1 fun p=>asr b.2 e p true fun q=>f ((aA .i64 (b.1+1)),q))<|ncx d.fTo c<|aob b.2 (Int.toNat d.fTo) fun j=>aix b.2 j b.1 fun s=>ald b.2 j s fun t=>aix b.2 e b.1 fun u=>asr b.2 e u t fun v=>f ((aA .i64 (b.1+1)),v))<|g b.2
def Ef (n:Nat)(a:Ah)(b:Nat)(e:Int×(Ars (List Bool)))(f:Int×(Ars (List Bool)))(d:B4)(c:(Ars (List Bool))->Option ((List (List Bool)))):Nat->Int×(Ars (List Bool))->Option ((List (List Bool))) |0,_=>none |g+1,h=>jon (Hx n a b e f d h c (Ef n a b e f d c g))<|reg<|cnd (decide (0<=d.fTo)) (Hx n a b e f d h c (Ef n a b e f d c g) (decide (h.1<16)))<|Hx n a b e f d h c (Ef n a b e f d c g) false
def Gh (n:Nat)(a:Ah)(c:Nat)(f:Int×(Ars (List Bool)))(d:(Ars (List Bool))->Option ((List (List Bool)))):Nat->Int×(Ars (List Bool))->Option ((List (List Bool))) |0,_=>none |g+1,b=>cnd (decide (b.1<((a.fEdges.map B6).length:Int))) (idx a.fEdges b.1 fun h=>Ef n a c f b h (fun e=>(Gh n a c f d g) ((aA .i64 (b.1+1)),e)) n (0,b.2))<|d b.2
def I4 (n:Nat)(a:Ah)(b:Nat)(d:(Ars (List Bool))->Option ((List (List Bool)))):Nat->Int×(Ars (List Bool))->Option ((List (List Bool))) |0,_=>none |f+1,c=>cnd (decide (c.1<((a.fStates.map Ba).length:Int))) (Gh n a b c (fun e=>(I4 n a b d f) ((aA .i64 (c.1+1)),e)) n (0,c.2))<|d c.2
def Pg (n:Nat)(a:Ah)(c:Nat->(Ars (List Bool))->Option ((List (List Bool)))):Nat->Nat×Int×(Ars (List Bool))->Option ((List (List Bool))) |0,_=>none |d+1,b=>cnd (decide (b.2.1<((a.fStates.map Ba).length:Int))) (bndR (Ul n a b.2.1) fun e=>aap b.2.2 e 24 fun f=>(Pg n a c d) (b.1+1,(aA .i64 (b.2.1+1)),f))<|c b.1 b.2.2
def Qu (n:Nat)(a:Ah):Option ((List (List Bool))):=arz 7003<|reg<|Pg n a (fun c d=>I4 n a c (fun b=>frq 7003 b<|reg<|some (aval b)) n (0,d)) n (0,0,([],[]))
def M2 (n:Nat)(h:Int)(a:A0)(c:(List Bg)->Option ((List Bg))):Nat->Int×(List Bg)->Option ((List Bg)) |0,_=>none |d+1,b=>cnd (decide (b.1<((a.fBindings.map Ar).length:Int))) (reg<|idx a.fBindings b.1 fun f=>cnd (decide (f.fVar=h)) (idx a.fBindings b.1 fun e=>app b.2 ([⟨e.fRef.fTime,e.fRef.fSource,e.fRef.fSeq⟩]) 24 fun g=>(M2 n h a c d) ((aA .i64 (b.1+1)),g))<|(M2 n h a c d) ((aA .i64 (b.1+1)),b.2))<|c b.2
def Rm (n:Nat)(c:A0)(a:Int):Option ((List Bg)):=M2 n a c (fun b=>some b) n (0,[])
def Pf (n:Nat)(a:(List Bg))(g:(List Bg))(c:Option (Bool)):Nat->Int->Option (Bool) |0,_=>none |f+1,b=>cnd (decide (b<((a.map Be).length:Int))) (idx a b fun d=>idx g b fun e=>cnd (!(decide (d.fTime=e.fTime) && (decide (d.fSource=e.fSource) && (decide (d.fSeq=e.fSeq) && true)))) (some false)<|(Pf n a g c f) (aA .i64 (b+1)))<|c
def U6 (n:Nat)(e:A0)(d:A0)(c:Int):Option (Bool):=bnd (Rm n e c) fun b=>bnd (Rm n d c) fun a=>cnd (!decide (((b.map Be).length:Int)=((a.map Be).length:Int))) (some false)<|Pf n b a (some true) n 0
def Kd (n:Nat)(a:A0)(e:A0)(f:(List (List Bool)))(c:Int)(b:Int->Option (Bool))(d:Bool):Option (Bool):=cnd (d) (some false)<|b (aA .i64 (c+1))
def Gf (n:Nat)(h:A0)(a:A0)(i:(List (List Bool)))(b:Option (Bool)):Nat->Int->Option (Bool) |0,_=>none |d+1,c=>cnd (decide (c<16)) (jon (Kd n h a i c (Gf n h a i b d))<|reg<|idx i a.fState fun e=>idx e c fun f=>cnd (f) (bnd (U6 n a h c) fun g=>Kd n h a i c (Gf n h a i b d) !(g))<|Kd n h a i c (Gf n h a i b d) false)<|b
def Kc (n:Nat)(a:A0)(e:A0)(f:(List (List Bool)))(c:Int)(b:Int->Option (Bool))(d:Bool):Option (Bool):=cnd (d) (some false)<|b (aA .i64 (c+1))
def Hy (n:Nat)(i:A0)(a:A0)(j:(List (List Bool)))(c:Option (Bool)):Nat->Int->Option (Bool) |0,_=>none |d+1,b=>cnd (decide (b<((a.fStarts.map Ad).length:Int))) (jon (Kc n i a j b (Hy n i a j c d))<|reg<|idx a.fStarts b fun e=>idx i.fStarts b fun f=>cnd (!decide (e.fScope=f.fScope)) (Kc n i a j b (Hy n i a j c d) true)<|idx a.fStarts b fun g=>idx i.fStarts b fun h=>Kc n i a j b (Hy n i a j c d) (decide (g.fTime<h.fTime)))<|c
def Ke (n:Nat)(a:A0)(c:A0)(d:(List (List Bool)))(b:Bool):Option (Bool):=cnd (b) (some false)<|Hy n a c d (Gf n a c d (some true) n 0) n 0
def Tx (n:Nat)(c:(List (List Bool)))(b:A0)(a:A0):Option (Bool):=jon (Ke n a b c)<|reg<|cnd (!decide (b.fState=a.fState)) (Ke n a b c true)<|Ke n a b c (!decide (((b.fStarts.map Ad).length:Int)=((a.fStarts.map Ad).length:Int)))
def K1 (n:Nat)(a:(List B5))(g:(List A8))(h:Ah)(b:Int)(d:Int->Option (Int))(e:Bool):Option (Int):=cnd (e) (some 14)<|idx a b fun c=>bnd (M4 n g (⟨c.fRef.fTime,c.fRef.fSource,c.fRef.fSeq⟩:Bg)) fun f=>cnd (!(f.2)) (some 6)<|d (aA .i64 (b+1))
def K2 (n:Nat)(a:(List B5))(h:(List A8))(i:Ah)(b:Int)(c:Int->Option (Int))(f:Bool):Option (Int):=cnd (f) (some 2)<|jon (K1 n a h i b c)<|reg<|cnd (decide (0<b)) (idx a (aA .i64 (b-1)) fun d=>idx a b fun e=>bnd (M7 n (⟨d.fRef.fTime,d.fRef.fSource,d.fRef.fSeq⟩:Bg) (⟨e.fRef.fTime,e.fRef.fSource,e.fRef.fSeq⟩:Bg)) fun g=>K1 n a h i b c (decide (0<=g)))<|K1 n a h i b c false
def Gc (n:Nat)(a:(List B5))(h:(List A8))(g:Ah)(b:Option (Int)):Nat->Int->Option (Int) |0,_=>none |d+1,c=>cnd (decide (c<((a.map Ar).length:Int))) (jon (K2 n a h g c (Gc n a h g b d))<|reg<|idx a c fun e=>cnd (decide (e.fVar<0)) (K2 n a h g c (Gc n a h g b d) true)<|idx a c fun f=>K2 n a h g c (Gc n a h g b d) (decide (g.fVars<=f.fVar)))<|b
def Xi (n:Nat)(c:Ah)(b:(List A8))(a:(List B5)):Option (Int):=cnd (decide (4096<=((a.map Ar).length:Int))) (some 5)<|Gc n a b c (some 0) n 0
def Kf (n:Nat)(a:(List Ak))(e:Ah)(c:Int)(b:Int->Option (Int))(d:Bool):Option (Int):=cnd (d) (some 14)<|b (aA .i64 (c+1))
def Gg (n:Nat)(a:(List Ak))(g:Ah)(b:Int)(c:Int->Option (Int))(d:Bool):Option (Int):=cnd (d) (some 2)<|jon (Kf n a g b c)<|reg<|cnd (decide (0<b)) (idx a (aA .i64 (b-1)) fun e=>idx a b fun f=>Kf n a g b c (decide (f.fScope<=e.fScope)))<|Kf n a g b c false
def Fk (n:Nat)(a:(List Ak))(i:Ah)(c:Option (Int)):Nat->Int->Option (Int) |0,_=>none |d+1,b=>cnd (decide (b<((a.map Ad).length:Int))) (jon (Gg n a i b (Fk n a i c d))<|reg<|idx a b fun e=>cnd (decide (e.fScope<0)) (Gg n a i b (Fk n a i c d) true)<|idx a b fun f=>cnd (decide (i.fScopes<=f.fScope)) (Gg n a i b (Fk n a i c d) true)<|idx a b fun g=>cnd (decide (g.fTime<0)) (Gg n a i b (Fk n a i c d) true)<|idx a b fun h=>Gg n a i b (Fk n a i c d) (decide (1099511627776<h.fTime)))<|c
def Xs (n:Nat)(b:Ah)(a:(List Ak)):Option (Int):=Fk n a b (some 0) n 0
def Kj (n:Nat)(c:A0)(f:(List A8))(d:Ah)(b:Bool):Option (Int):=cnd (b) (some 21)<|bnd (Xi n d f c.fBindings) fun a=>cnd (!decide (a=0)) (some a)<|bnd (Xs n d c.fStarts) fun e=>some e
def Qg (n:Nat)(b:Ah)(c:(List A8))(a:A0):Option (Int):=jon (Kj n a c b)<|reg<|cnd (decide (a.fState<0)) (Kj n a c b true)<|Kj n a c b (decide (((b.fStates.map Ba).length:Int)<=a.fState))
def L4 (n:Nat)(a:Bq)(g:(List A8))(h:Ah)(e:Int)(f:(List A0))(c:Int)(b:Int->Option (Int))(d:Bool):Option (Int):=cnd (d) (some 14)<|b (aA .i64 (c+1))
def I7 (n:Nat)(m:Bq)(a:(List A8))(i:Ah)(d:Int)(c:(List A0))(e:Option (Int)):Nat->Int->Option (Int) |0,_=>none |f+1,b=>cnd (decide (b<((c.map A4).length:Int))) (sls a 0 d fun h=>idx c b fun j=>bnd (Qg n i h j) fun g=>cnd (!decide (g=0)) (some g)<|jon (L4 n m a i d c b (I7 n m a i d c e f))<|reg<|cnd (decide (0<b)) (idx c (aA .i64 (b-1)) fun k=>idx c b fun l=>bnd (L6 n k l) fun o=>L4 n m a i d c b (I7 n m a i d c e f) (decide (0<=o)))<|L4 n m a i d c b (I7 n m a i d c e f) false)<|e
def Q4 (n:Nat)(a:Bq)(f:(List A8))(g:Ah)(c:Option (Int)):Nat->Int->Option (Int) |0,_=>none |d+1,b=>cnd (decide (b<(((List.map (fun q=>AV.sl 3 (List.map A4 q)) (a.fSets)).length:Nat):Int))) (idx a.fSets b fun e=>cnd (decide (4096<((e.map A4).length:Int))) (some 5)<|I7 n a f g b e ((Q4 n a f g c d) (aA .i64 (b+1))) n 0)<|c
def Uc (n:Nat)(c:Ah)(b:(List A8))(a:Bq):Option (Int):=cnd (!decide ((((List.map (fun q=>AV.sl 3 (List.map A4 q)) (a.fSets)).length:Nat):Int)=(aA .i64 (((b.map A7).length:Int)+1)))) (some 15)<|Q4 n a b c (some 0) n 0
def Oh (n:Nat)(g:A0)(a:(List A0))(h:(List (List Bool)))(b:Option (Bool)):Nat->Int->Option (Bool) |0,_=>none |d+1,c=>cnd (decide (c<((a.map A4).length:Int))) (idx a c fun e=>bnd (Tx n h e g) fun f=>cnd (f) (some true)<|(Oh n g a h b d) (aA .i64 (c+1)))<|b
def Q5 (n:Nat)(c:(List (List Bool)))(b:(List A0))(a:A0):Option (Bool):=Oh n a b c (some false) n 0
def Ox (n:Nat)(a:Bq)(i:(List A8))(l:Ah)(c:(List (List Bool))×Int)(g:Int)(e:(List A0)×(List Ac))(b:Option (Bool)):Nat->Int->Option (Bool) |0,_=>none |f+1,d=>cnd (decide (d<((e.1.map A4).length:Int))) (idx a.fSets (aA .i64 (c.2+1)) fun h=>idx e.1 d fun j=>bnd (Q5 n c.1 h j) fun k=>cnd (!(k)) (some false)<|(Ox n a i l c g e b f) (aA .i64 (d+1)))<|b
def Oy (n:Nat)(a:Bq)(i:(List A8))(l:Ah)(b:(List (List Bool))×Int)(d:Option (Bool)):Nat->Int->Option (Bool) |0,_=>none |e+1,c=>idx a.fSets b.2 fun g=>cnd (decide (c<((g.map A4).length:Int))) (idx a.fSets b.2 fun h=>idx h c fun j=>idx i b.2 fun k=>bnd (Mg n l i j k) fun f=>cnd (decide (0<((f.2.map Au).length:Int))) (some false)<|Ox n a i l b c f ((Oy n a i l b d e) (aA .i64 (c+1))) n 0)<|d
def Oz (n:Nat)(e:Bq)(a:(List A8))(f:Ah)(c:Option (Bool)):Nat->(List (List Bool))×Int->Option (Bool) |0,_=>none |d+1,b=>cnd (decide (b.2<((a.map A7).length:Int))) (Oy n e a f b ((Oz n e a f c d) (b.1,(aA .i64 (b.2+1)))) n 0)<|c
def Tw (n:Nat)(c:Ah)(g:(List A8))(b:Bq):Option (Bool):=bnd (Qu n c) fun a=>idx b.fSets 0 fun f=>bnd (Qv n) fun e=>bnd (Q5 n a f e) fun d=>cnd (!(d)) (some false)<|Oz n b g c (some true) n (a,0)
def Ll (n:Nat)(b:Ah)(a:(List A8))(e:Bq):Option (Int):=bnd (Fy n b a) fun d=>cnd (!decide (d=0)) (some d)<|bnd (Uc n b a e) fun c=>cnd (!decide (c=0)) (some c)<|bnd (Tw n b a e) fun f=>cnd (!(f)) (some 18)<|some 0
def Jw (n:Nat)(b:Bool):Option (Bool):=some b
def Fi (n:Nat)(a:Bq)(e:(List A8))(f:Ah)(b:Bool):Option (Bool):=cnd (b) (bnd (R1 n) fun h=>some h)<|jon (Jw n)<|reg<|bnd (E4 n f e a) fun g=>bnd (Ll n f e a) fun c=>cnd (decide (g=c)) (bnd (R1 n) fun d=>Jw n d)<|Jw n false
def Xb (n:Nat)(e:Ah)(d:(List A8))(a:Bq):Option (Bool):=jon (Fi n a d e)<|reg<|bnd (M3 n e d) fun b=>cnd (!(b)) (Fi n a d e true)<|bnd (Um n a) fun c=>Fi n a d e !(c)
attribute [irreducible] Hx Kd Kc Ke    K1 K2 Kf Gg Kj L4 Jw Fi   
end
noncomputable section
abbrev z4n {n b a g c d e}:=jf (Kx n b a g c d e) (fun f=>⟨[(1,aI a),(2,.ptr 2 0),(5,aI c.1),(6,aI c.2),(16,.bool (f))],[(2,.box 111 (Cm g))]⟩) fun _=>Kx.eq_1 ..
abbrev z4m {n b a e c}:=li (I5 n b a e c) (fun d=>⟨[(1,aI a),(2,.ptr 2 0),(5,aI d.1),(6,aI d.2)],[(2,.box 111 (Cm e))]⟩) fun _ _=>I5.eq_2 ..
abbrev z4l {n b a c}:=li (Pp n b a c) (fun d=>⟨[(1,.ptr 1 0),(3,aI d.1),(4,aI d.2)],[(1,.box 111 (Cm a))]⟩) fun _ _=>Pp.eq_2 ..
abbrev z4g {n}:=jt (Eg n) (fun b=>⟨[(12,.bool (b))],[]⟩) fun _=>Eg.eq_1 ..
abbrev z4h {n a}:=jt (Fo n a) (fun b=>⟨[(3,aI a),(4,.bool (b))],[]⟩) fun _=>Fo.eq_1 ..
abbrev z5t {n b}:=jf (I8 n b) (fun c=>⟨[(2,.bool (c)),(3,.bool (b))],[]⟩) fun _=>I8.eq_1 ..
abbrev z5u {n a}:=jf (Lb n a) (fun b=>⟨[(0,aI a),(4,.bool (b))],[]⟩) fun _=>Lb.eq_1 ..
abbrev z4o {n}:=jf (Gk n) (fun b=>⟨[(4,.bool (b))],[]⟩) fun _=>Gk.eq_1 ..
abbrev z5w {n}:=jf (Ca n) (fun b=>⟨[(130,.bool (b))],[]⟩) fun _=>Ca.eq_1 ..
abbrev z5x {n d a b}:=jf (Gr n d a b) (fun c=>⟨[(1,.ptr 1 0),(4,.bool (a.1)),(5,.bool (a.2)),(6,.bool (decide (d.fOp=4))),(7,.bool (b)),(95,.bool (c))],[(1,.box 111 (Cm d))]⟩) fun _=>Gr.eq_1 ..
abbrev z5y {n c a b}:=jt (Lc n c a b) (fun _=>⟨[(1,.ptr 1 0),(4,.bool (a.1)),(5,.bool (a.2)),(6,.bool (decide (c.fOp=4))),(7,.bool (b))],[(1,.box 111 (Cm c))]⟩) fun _=>Lc.eq_1 ..
abbrev z5z {n c a}:=jf (Ld n c a) (fun b=>⟨[(1,.ptr 1 0),(4,.bool (a.1)),(5,.bool (a.2)),(6,.bool (decide (c.fOp=4))),(7,.bool (b))],[(1,.box 111 (Cm c))]⟩) fun _=>Ld.eq_1 ..
abbrev z60 {n c a}:=jf (I9 n c a) (fun b=>⟨[(1,.ptr 1 0),(4,.bool (a.1)),(5,.bool (a.2)),(6,.bool (decide (c.fOp=4))),(62,.bool (b))],[(1,.box 111 (Cm c))]⟩) fun _=>I9.eq_1 ..
abbrev z61 {n c a}:=jf (E1 n c a) (fun b=>⟨[(1,.ptr 1 0),(4,.bool (a.1)),(5,.bool (a.2)),(48,.bool (b))],[(1,.box 111 (Cm c))]⟩) fun _=>E1.eq_1 ..
abbrev z4f {n b a c}:=li (Po n b a c) (fun d=>⟨[(1,.ptr 1 0),(4,aI d)],[(1,.box 111 (Cm a))]⟩) fun _ _=>Po.eq_2 ..
attribute [instance] z4n z4m z4l z4g z4h z5t z5u z4o z5w z5x z5y z5z z60 z61 z4f
def z99 (r:Int):AV:=aI (r)
theorem z3v {n d c r}(b:Fv n d c=some r):Con E0 true 95 [Av d,aI c] (aI r):=by
 induction n generalizing d c r
 case zero=>cases b
 case succ n e =>
 unfold Fv at b;refine cw Tryz.func95 ?_;repeat' first
  |refine AW.jI b (fun v b=>?_) fun b=>?_
  |refine aG b fun b=>?_
  |refine aE [3] ?_;conv=>whnf
  |refine Aa.o b (fun b=>?_) fun b=>?_
  |refine aF b D4 (fun x b=>?_)
  |refine Af.o b z99 (fun a h=>e h) (fun a b=>?_)
  |exact ⟨_,b,aB []⟩
  |refine Az.I b (aB []) fun m v b=>?_
  |exact aC b
instance zj0 {n b a}:CI E0 (Fv n b a) true 95 [Av b,aI a] aI:=⟨z3v⟩
def z98 (r:Int):AV:=aI (r)
theorem z3u {n c r}(b:Fu n c=some r):Con E0 true 96 [Av c] (aI r):=by
 induction n generalizing c r
 case zero=>cases b
 case succ n d =>
 unfold Fu at b;refine cw Tryz.func96 ?_;repeat' first
  |refine aJ ?_;conv=>whnf
  |refine Aa.o b (fun b=>?_) fun b=>?_
  |refine aF b D4 (fun x b=>?_)
  |refine Af.o b z98 (fun a h=>d h) (fun a b=>?_)
  |exact ⟨_,b,aB []⟩
  |refine Az.I b (aB []) fun m v b=>?_
  |exact aC b
instance ziz {n a}:CI E0 (Fu n a) true 96 [Av a] aI:=⟨z3u⟩
instance ziw {n a}:CI E0 (U9 n a) true 235 [aI a] aI:=by unfold U9;exact aD [2,3,4,5,10,11,12,13,14,15] Tryz.func235
instance zk2 {n a}:CI E0 (R9 n a) true 234 [aI a] (fun r=>.tup [.bool (r.1),.bool (r.2)]):=by unfold R9;exact aD [1,2] Tryz.func234
instance zj7 {n a}:CI E0 (H4 n a) true 236 [Ag a] aI:=by unfold H4;exact aD [] Tryz.func236
instance zj3 {n b a}:CI E0 (M6 n b a) true 237 [aI b,Ag a] (fun r=>.bool (r)):=by unfold M6;exact aD [1] Tryz.func237
instance zk4 {n c}:CI E0 (Uf n c) true 209 [Av c] aI:=⟨fun {r} b=>by
 unfold Uf at b;refine cw Tryz.func209 ?_;repeat' first
  |refine AW.jI b (fun v b=>?_) fun b=>?_
  |refine AW.jI2 b (fun v b=>?_) fun b=>?_
  |refine aG b fun b=>?_
  |refine aE [7,10,12,13,17,19] ?_;conv=>whnf
  |refine Aa.o b (fun b=>?_) fun b=>?_
  |refine Aa.t ?_
  |refine Aa.f ?_
  |refine Af.I b fun a b=>?_
  |exact ⟨_,b,aB []⟩
  |exact ⟨(),b,aB []⟩
  |refine EqX.A ?_
  |exact aC b⟩
def z97 (r:Int):AV:=aI (r)
theorem z3t {n c r}(b:H3 n c=some r):Con E0 true 179 [Av c] (aI r):=by
 induction n generalizing c r
 case zero=>cases b
 case succ n d =>
 unfold H3 at b;refine cw Tryz.func179 ?_;repeat' first
  |refine aJ ?_;conv=>whnf
  |refine Aa.o b (fun b=>?_) fun b=>?_
  |refine Af.I b fun a b=>?_
  |refine aF b D4 (fun x b=>?_)
  |refine Af.o b z97 (fun a h=>d h) (fun a b=>?_)
  |exact ⟨_,b,aB []⟩
  |refine Az.I b (aB []) fun m v b=>?_
  |exact aC b
instance ziv {n a}:CI E0 (H3 n a) true 179 [Av a] aI:=⟨z3t⟩
end
noncomputable section
abbrev z7b {n}:=jf (Ls n) (fun b=>⟨[(4,.bool (b))],[]⟩) fun _=>Ls.eq_1 ..
abbrev z38 {n a e b c}:=li (P3 n a e b c) (fun d=>⟨[(1,.sl 11 (a.map Bc)),(2,.ptr 2 0),(5,aI b),(6,aI d)],[(2,.box 25 (B3 e))]⟩) fun _ _=>P3.eq_2 ..
abbrev z3b {n a e b c}:=jf (I1 n a e b c) (fun d=>⟨[(1,.sl 11 (a.map Bc)),(2,.ptr 2 0),(5,aI b),(44,.bool (d))],[(2,.box 25 (B3 e))]⟩) fun _=>I1.eq_1 ..
abbrev z3a {n a d b}:=li (Fl n a d b) (fun c=>⟨[(1,.sl 11 (a.map Bc)),(2,.ptr 2 0),(5,aI c)],[(2,.box 25 (B3 d))]⟩) fun _ _=>Fl.eq_2 ..
abbrev z36 {n a e b c}:=li (P2 n a e b c) (fun d=>⟨[(0,.sl 1 (e.map aI)),(1,aI a),(5,aI b),(6,aI d)],[]⟩) fun _ _=>P2.eq_2 ..
abbrev z37 {n a d b}:=li (Kk n a d b) (fun c=>⟨[(0,.sl 1 (d.map aI)),(1,aI a),(5,aI c)],[]⟩) fun _ _=>Kk.eq_2 ..
abbrev z44 {n a b}:=li (Kt n a b) (fun c=>⟨[(3,.ptr 3 0),(10,aI c)],[(3,.box 115 (C7 a))]⟩) fun _ _=>Kt.eq_2 ..
abbrev z47 {n a e b c}:=li (Gi n a e b c) (fun d=>⟨[(2,.ptr 2 0),(3,.ptr 3 0),(7,.sl 1 [.sl 1 (a.fOpens.map aI),.sl 1 (a.fCloses.map aI),.sl 1 (a.fInside.map aI),.sl 1 (b.map aI)]),(8,aI d)],[(2,.box 25 (B3 e)),(3,.box 115 (C7 a))]⟩) fun _ _=>Gi.eq_2 ..
abbrev z48 {n a d b}:=li (Pj n a d b) (fun c=>⟨[(2,.ptr 2 0),(3,.ptr 3 0),(5,.row 7026),(6,aI c.1)],[(2,.box 25 (B3 d)),(3,.box 115 (C7 a)),(7026,.row 3 1 (c.2.map aI))]⟩) fun _ _=>Pj.eq_2 ..
abbrev z5m {n a d b}:=li (Q7 n a d b) (fun c=>⟨[(3,.ptr 3 0),(4,.ptr 4 0),(9,aI c)],[(3,.box 25 (B3 d)),(4,.box 115 (C7 a))]⟩) fun _ _=>Q7.eq_2 ..
abbrev z5n {n a c d}:=jf (Dp n a c d) (fun b=>⟨[(2,aI a),(3,.ptr 3 0),(4,.ptr 4 0),(42,.bool (b))],[(3,.box 25 (B3 d)),(4,.box 115 (C7 c))]⟩) fun _=>Dp.eq_1 ..
abbrev z49 {n a b}:=li (Pk n a b) (fun c=>⟨[(1,.ptr 1 0),(5,aI c.1),(6,aI c.2)],[(1,.box 25 (B3 a))]⟩) fun _ _=>Pk.eq_2 ..
abbrev z4a {n a b}:=li (Pm n a b) (fun c=>⟨[(1,.ptr 1 0),(3,aI c)],[(1,.box 25 (B3 a))]⟩) fun _ _=>Pm.eq_2 ..
abbrev z4b {n a}:=jf (Fm n a) (fun b=>⟨[(1,.ptr 1 0),(31,.bool (b))],[(1,.box 25 (B3 a))]⟩) fun _=>Fm.eq_1 ..
abbrev z4c {n a}:=jf (Gj n a) (fun b=>⟨[(1,.ptr 1 0),(15,.bool (b))],[(1,.box 25 (B3 a))]⟩) fun _=>Gj.eq_1 ..
attribute [instance] z7b z38 z3b z3a z36 z37 z44 z47 z48 z5m z5n z49 z4a z4b z4c
instance zj1 {n a}:CI E0 (Fw n a) true 138 [Av a] aI:=by unfold Fw;exact aD [] Tryz.func138
instance zmq {n b a}:CI E0 (D3 n b a) true 97 [aI b,aI a] (fun r=>.bool (r)):=by unfold D3;exact aD [1] Tryz.func97
instance zh9 {n b a}:CI E0 (U0 n b a) true 98 [Bl b,.sl 11 (a.map Bc)] aI:=by unfold U0;exact aD [6] Tryz.func98
instance zh8 {n b a}:CI E0 (Qk n b a) true 180 [.sl 1 (b.map aI),aI a] aI:=by unfold Qk;exact aD [] Tryz.func180
instance ziq {n d c}:CI E0 (Qw n d c) true 139 [Bl d,B6 c] aI:=⟨fun {r} b=>by
 unfold Qw at b;refine cw Tryz.func139 ?_;repeat' first
  |refine aG b fun b=>?_
  |refine AW.frzO b 7026 rfl (fun b=>?_)
  |refine aE [6] ?_;conv=>whnf
  |refine Aa.o b (fun b=>?_) fun b=>?_
  |refine IdxX.A b fun x b=>?_
  |refine Af.I b fun a b=>?_
  |exact ⟨_,b,aB []⟩
  |refine Az.I b ?_ fun m v b=>?_
  |exact aB []
  |refine IdxX.o (fun q=>AV.sl 1 (List.map aI q)) b fun x b=>?_
  |refine AppX.oA b fun l b=>?_
  |exact ⟨_,b,aB [(7026,26)]⟩
  |exact LeX.trans (LeX.adopt 5 7026 3 1 rfl rfl) (aB [])
  |refine AndA ?_
  |exact aC b⟩
instance zk0 {n e d c}:CI E0 (Ue n e d c) true 99 [Bl e,B6 d,aI c] aI:=⟨fun {r} b=>by
 unfold Ue at b;refine cw Tryz.func99 ?_;repeat' first
  |refine AW.jI b (fun v b=>?_) fun b=>?_
  |refine aG b fun b=>?_
  |refine aE [2] ?_;conv=>whnf
  |refine Aa.o b (fun b=>?_) fun b=>?_
  |refine Aa.t ?_
  |refine Aa.f ?_
  |refine Af.I b fun a b=>?_
  |refine aF b D4 (fun x b=>?_)
  |exact ⟨_,b,aB []⟩
  |refine Az.I b (aB []) fun m v b=>?_
  |exact aC b⟩
end
noncomputable section
abbrev zff {n b a d}:=li (S8 n b a d) (fun c=>⟨[(4,aI c.1),(5,aI c.2.1),(11,.sl 8 (a.fArgs.map idA)),(12,aI (((a.fArgs.map idA).length:Int))),(13,aI c.2.2)],[]⟩) fun _ _=>S8.eq_2 ..
abbrev ze0 {n a}:=jf (Mz n a) (fun b=>⟨[(0,aI a),(4,.bool (b))],[]⟩) fun _=>Mz.eq_1 ..
abbrev zf8 {n}:=jt (N3 n) (fun b=>⟨[(8,.bool (b))],[]⟩) fun _=>N3.eq_1 ..
abbrev zf9 {n a}:=jt (N4 n a) (fun b=>⟨[(4,aI a),(5,.bool (b))],[]⟩) fun _=>N4.eq_1 ..
abbrev zdz {n}:=jf (J9 n) (fun b=>⟨[(4,.bool (b))],[]⟩) fun _=>J9.eq_1 ..
abbrev zah {n}:=jf (H9 n) (fun b=>⟨[(31,.bool (b))],[]⟩) fun _=>H9.eq_1 ..
abbrev zfa {n}:=jf (Cb n) (fun b=>⟨[(113,.bool (b))],[]⟩) fun _=>Cb.eq_1 ..
abbrev zfb {n c a b}:=jt (N5 n c a b) (fun _=>⟨[(1,.ptr 1 0),(5,.bool (a.1)),(6,.bool (a.2)),(7,.bool (decide (c.fOp=4))),(8,.bool (b))],[(1,.box 111 (Cm c))]⟩) fun _=>N5.eq_1 ..
abbrev zfc {n c a}:=jf (N6 n c a) (fun b=>⟨[(1,.ptr 1 0),(5,.bool (a.1)),(6,.bool (a.2)),(7,.bool (decide (c.fOp=4))),(8,.bool (b))],[(1,.box 111 (Cm c))]⟩) fun _=>N6.eq_1 ..
abbrev zfd {n c a}:=jf (Ja n c a) (fun b=>⟨[(1,.ptr 1 0),(5,.bool (a.1)),(6,.bool (a.2)),(7,.bool (decide (c.fOp=4))),(66,.bool (b))],[(1,.box 111 (Cm c))]⟩) fun _=>Ja.eq_1 ..
abbrev zfe {n c a}:=jf (E7 n c a) (fun b=>⟨[(1,.ptr 1 0),(5,.bool (a.1)),(6,.bool (a.2)),(52,.bool (b))],[(1,.box 111 (Cm c))]⟩) fun _=>E7.eq_1 ..
abbrev zdy {n b a c}:=li (S3 n b a c) (fun d=>⟨[(1,.fn 183 []),(16,.sl 8 (a.fArgs.map idA)),(17,aI (((a.fArgs.map idA).length:Int))),(18,aI d)],[]⟩) fun _ _=>S3.eq_2 ..
abbrev z8q {n}:=jf (M8 n) (fun b=>⟨[(4,.bool (b))],[]⟩) fun _=>M8.eq_1 ..
attribute [instance] zff ze0 zf8 zf9 zdz zah zfa zfb zfc zfd zfe zdy z8q
instance zir {n a}:CI E0 (Ir n a) true 63 [Bl a] aI:=by unfold Ir;exact aD [1,3] Tryz.func63
def zqi (r:Int×Int):AV:=.tup [aI (r.1),aI (r.2)]
theorem zeb {n c r}(b:Hf n c=some r):Con E0 true 182 [Av c] (.tup [aI r.1,aI r.2]):=by
 induction n generalizing c r
 case zero=>cases b
 case succ n d =>
 unfold Hf at b;refine cw Tryz.func182 ?_;repeat' first
  |refine aJ ?_;conv=>whnf
  |refine Aa.o b (fun b=>?_) fun b=>?_
  |refine aF b D4 (fun x b=>?_)
  |refine Af.o b zqi (fun a h=>d h) (fun a b=>?_)
  |exact ⟨_,b,aB []⟩
  |refine Az.I b (aB []) fun m v b=>?_
  |exact aC b
instance y10 {n a}:CI E0 (Hf n a) true 182 [Av a] (fun r=>.tup [aI r.1,aI r.2]):=⟨zeb⟩
instance zyx {n a}:CI E0 (W8 n a) true 210 [aI a] (fun r=>.tup [aI r.1,.bool (r.2)]):=by unfold W8;exact aD [1] Tryz.func210
instance y0w {n a}:CI E0 (Sd n a) true 153 [aI a] (fun r=>.tup [.bool (r.1),.bool (r.2)]):=by unfold Sd;exact aD [2,5] Tryz.func153
instance zyn {n a}:CI E0 (N7 n a) true 252 [Ag a] aI:=by unfold N7;exact aD [] Tryz.func252
instance zxt {n a}:CI E0 (Hc n a) true 238 [Ag a] aI:=by unfold Hc;exact aD [] Tryz.func238
instance zyv {n b a}:CI E0 (W7 n b a) true 239 [aI b,Ag a] (fun r=>.bool (r)):=by unfold W7;exact aD [1] Tryz.func239
instance zsk {n a}:CI E0 (Vn n a) true 211 [Av a] aI:=by unfold Vn;exact aD [4] Tryz.func211
instance y0y {n c}:CI E0 (Wb n c) true 183 [Av c] aI:=⟨fun {r} b=>by
 unfold Wb at b;refine cw Tryz.func183 ?_;repeat' first
  |refine AW.jI b (fun v b=>?_) fun b=>?_
  |refine AW.jI2 b (fun v b=>?_) fun b=>?_
  |refine aG b fun b=>?_
  |refine aE [7,10,12,13,17] ?_;conv=>whnf
  |refine Aa.o b (fun b=>?_) fun b=>?_
  |refine Aa.t ?_
  |refine Aa.f ?_
  |refine Af.I b fun a b=>?_
  |exact ⟨_,b,aB []⟩
  |exact ⟨(),b,aB []⟩
  |refine EqX.A ?_
  |exact aC b⟩
def znr (r:Int):AV:=aI (r)
theorem zcf {n c r}(b:Hd n c=some r):Con E0 true 151 [Av c,.fn 183 []] (aI r):=by
 induction n generalizing c r
 case zero=>cases b
 case succ n d =>
 unfold Hd at b;refine cw Tryz.func151 ?_;repeat' first
  |refine aJ ?_;conv=>whnf
  |refine Aa.o b (fun b=>?_) fun b=>?_
  |refine Af.I b fun a b=>?_
  |refine aF b D4 (fun x b=>?_)
  |refine Af.o b znr (fun a h=>d h) (fun a b=>?_)
  |exact ⟨_,b,aB []⟩
  |refine Az.I b (aB []) fun m v b=>?_
  |exact aC b
instance zyu {n a}:CI E0 (Hd n a) true 151 [Av a,.fn 183 []] aI:=⟨zcf⟩
instance zyy {n a}:CI E0 (He n a) true 143 [Av a] aI:=by unfold He;exact aD [] Tryz.func143
instance zo0 {n b a}:CI E0 (F5 n b a) true 140 [aI b,aI a] (fun r=>.bool (r)):=by unfold F5;exact aD [1] Tryz.func140
end
end Go.Proofs.YtidhlpjgifoneaaGreat
