/- What some functions compute, over plain values. -/
import Derived.Test.YtidhlpjgifoneaaGreatK21
import Derived.Test.YtidhlpjgifoneaaGreatK22
set_option linter.unusedVariables false
set_option linter.unusedSimpArgs false
set_option maxRecDepth 100000
set_option maxHeartbeats 8000000
namespace Go.Proofs.YtidhlpjgifoneaaGreat
open Go.RowKit
open IntKind renaming wrap->aA
open LeX renaming a->aB
open RetX renaming oB->aC
open CI renaming w->aD
open AW renaming stepU->aE,regO->aG,step->aJ
open IdxX renaming oD->aF
noncomputable section
def Dr (n:Nat)(b:B1->(List Bool)->Option ((List Bool)))(a:B1)(d:(List Bool)->Option ((List Bool))):Nat->Int×(List Bool)->Option ((List Bool)) |0,_=>none |e+1,c=>cnd (decide (c.1<((a.fArgs.map idA).length:Int))) (idxD C3 a.fArgs c.1 fun f=>bndM 43 (b f c.2) fun g=>(Dr n b a d e) ((aA .i64 (c.1+1)),g))<|d c.2
def Pj (n:Nat)(b:B1->(List Bool)->Option ((List Bool)))(a:B1)(d:(List Bool)->Option ((List Bool))):Nat->Int×(List Bool)->Option ((List Bool)) |0,_=>none |e+1,c=>cnd (decide (c.1<((a.fArgs.map idA).length:Int))) (idxD C3 a.fArgs c.1 fun f=>bndM 43 (b f c.2) fun g=>(Pj n b a d e) ((aA .i64 (c.1+1)),g))<|d c.2
def Pi (n:Nat)(b:B1->(List Bool)->Option ((List Bool)))(a:B1)(d:(List Bool)->Option ((List Bool))):Nat->Int×(List Bool)->Option ((List Bool)) |0,_=>none |e+1,c=>cnd (decide (c.1<((a.fArgs.map idA).length:Int))) (idxD C3 a.fArgs c.1 fun f=>bndM 43 (b f c.2) fun g=>(Pi n b a d e) ((aA .i64 (c.1+1)),g))<|d c.2
def Ph (n:Nat)(b:B1->(List Bool)->Option ((List Bool)))(a:B1)(d:(List Bool)->Option ((List Bool))):Nat->Int×(List Bool)->Option ((List Bool)) |0,_=>none |e+1,c=>cnd (decide (c.1<((a.fArgs.map idA).length:Int))) (idxD C3 a.fArgs c.1 fun f=>bndM 43 (b f c.2) fun g=>(Ph n b a d e) ((aA .i64 (c.1+1)),g))<|d c.2
def E5:Nat->B1->(List Bool)->Option ((List Bool)) |0,_,_=>none |n+1,a,f=>bnd (Rr n a.fOp) fun i=>cnd (i.1) (cnd (decide (0<=a.fVar)) (cnd (decide (a.fVar<((f.map AV.bool).length:Int))) (nat a.fVar (f.map AV.bool).length fun h=>stx f h (fun j=>true) fun g=>Dr n (E5 n) a (fun b=>some b) n (0,g))<|Pj n (E5 n) a (fun c=>some c) n (0,f))<|Pi n (E5 n) a (fun d=>some d) n (0,f))<|Ph n (E5 n) a (fun e=>some e) n (0,f)
def Hz (n:Nat)(a:(List Bool))(c:(List Int)->Option ((List Int))):Nat->Int×(List Int)->Option ((List Int)) |0,_=>none |d+1,b=>cnd (decide (b.1<((a.map AV.bool).length:Int))) (reg<|nat b.1 (a.map AV.bool).length fun e=>elt a e fun f=>cnd (f) (app b.2 [b.1] 8 fun g=>(Hz n a c d) ((aA .i64 (b.1+1)),g))<|(Hz n a c d) ((aA .i64 (b.1+1)),b.2))<|c b.2
def U0 (n:Nat)(d:B1):Option ((List Int)):=mak 16 1 (false:Bool) fun c=>bndM 9 (E5 n d c) fun a=>Hz n a (fun b=>some b) n (0,[])
def Pd (n:Nat)(a:(List Int))(c:(List Bool)->Option ((List Bool))):Nat->Int×(List Bool)->Option ((List Bool)) |0,_=>none |d+1,b=>cnd (decide (b.1<((a.map aI).length:Int))) (idx a b.1 fun e=>nat e (b.2.map AV.bool).length fun f=>stx b.2 f (fun h=>true) fun g=>(Pd n a c d) ((aA .i64 (b.1+1)),g))<|c b.2
def Lt (n:Nat)(d:B1)(c:(List Bool)):Option ((List Bool)):=bnd (U0 n d) fun a=>Pd n a (fun b=>some b) n (0,c)
def Qu (n:Nat)(b:(List B5)×Int×(List Bool))(d:(List Bool)->Option ((List Bool))):Nat->Int×(List Bool)->Option ((List Bool)) |0,_=>none |e+1,c=>idx b.1 b.2.1 fun f=>cnd (decide (c.1<((f.fChecks.map idA).length:Int))) (idx b.1 b.2.1 fun g=>idxD C3 g.fChecks c.1 fun h=>bndM 66 (Lt n h c.2) fun j=>(Qu n b d e) ((aA .i64 (c.1+1)),j))<|d c.2
def H4 (n:Nat)(c:(List Bool)->Option ((List Bool))):Nat->(List B5)×Int×(List Bool)->Option ((List Bool)) |0,_=>none |e+1,b=>cnd (decide (b.2.1<((b.1.map B7).length:Int))) (idx b.1 b.2.1 fun f=>bndM 46 (Lt n f.fCond b.2.2) fun g=>Qu n b (fun d=>(H4 n c e) (b.1,(aA .i64 (b.2.1+1)),d)) n (0,g))<|c b.2.2
def Ls (n:Nat)(g:Int)(h:Ai)(a:G7)(c:(List Bool)->Option ((List Bool))):Nat->Int×(List Bool)->Option ((List Bool)) |0,_=>none |d+1,b=>cnd (decide (b.1<((a.fGuards.map Be).length:Int))) (idx a.fGuards b.1 fun e=>bndM 30 (Lt n e.fCond b.2) fun f=>(Ls n g h a c d) ((aA .i64 (b.1+1)),f))<|c b.2
def V4 (n:Nat)(e:Ai)(a:Int):Option ((List Bool)):=mak 16 1 (false:Bool) fun g=>idx e.fStates a fun f=>Ls n a e f (fun b=>bnd (J7 n e a) fun d=>H4 n (fun c=>some c) n (d,0,b)) n (0,g)
def I6 (n:Nat)(a:Ai)(c:Nat)(w:Int×(Ars (List Bool)))(y:Int×(Ars (List Bool)))(d:B5)(b:Int×(Ars (List Bool)))(g:(Ars (List Bool))->Option ((List (List Bool))))(f:(Int×(Ars (List Bool)))->Option ((List (List Bool))))(k:Bool):Option ((List (List Bool))):=cnd (k) (reg<|ncx d.fFrom c<|aob b.2 (Int.toNat d.fFrom) fun e=>ncx d.fFrom c<|aob b.2 (Int.toNat d.fFrom) fun h=>aix b.2 h b.1 fun l=>ald b.2 h l fun o=>cnd (o) (aix b.2 e b.1 fun p=>asr b.2 e p true fun q=>f ((aA .i64 (b.1+1)),q))<|ncx d.fTo c<|aob b.2 (Int.toNat d.fTo) fun j=>aix b.2 j b.1 fun s=>ald b.2 j s fun t=>aix b.2 e b.1 fun u=>asr b.2 e u t fun v=>f ((aA .i64 (b.1+1)),v))<|g b.2
def Eg (n:Nat)(a:Ai)(b:Nat)(e:Int×(Ars (List Bool)))(f:Int×(Ars (List Bool)))(d:B5)(c:(Ars (List Bool))->Option ((List (List Bool)))):Nat->Int×(Ars (List Bool))->Option ((List (List Bool))) |0,_=>none |g+1,h=>jon (I6 n a b e f d h c (Eg n a b e f d c g))<|reg<|cnd (decide (0<=d.fTo)) (I6 n a b e f d h c (Eg n a b e f d c g) (decide (h.1<16)))<|I6 n a b e f d h c (Eg n a b e f d c g) false
def Gm (n:Nat)(a:Ai)(c:Nat)(f:Int×(Ars (List Bool)))(d:(Ars (List Bool))->Option ((List (List Bool)))):Nat->Int×(Ars (List Bool))->Option ((List (List Bool))) |0,_=>none |g+1,b=>cnd (decide (b.1<((a.fEdges.map B7).length:Int))) (idx a.fEdges b.1 fun h=>Eg n a c f b h (fun e=>(Gm n a c f d g) ((aA .i64 (b.1+1)),e)) n (0,b.2))<|d b.2
def Ib (n:Nat)(a:Ai)(b:Nat)(d:(Ars (List Bool))->Option ((List (List Bool)))):Nat->Int×(Ars (List Bool))->Option ((List (List Bool))) |0,_=>none |f+1,c=>cnd (decide (c.1<((a.fStates.map Bb).length:Int))) (Gm n a b c (fun e=>(Ib n a b d f) ((aA .i64 (c.1+1)),e)) n (0,c.2))<|d c.2
def Pw (n:Nat)(a:Ai)(c:Nat->(Ars (List Bool))->Option ((List (List Bool)))):Nat->Nat×Int×(Ars (List Bool))->Option ((List (List Bool))) |0,_=>none |d+1,b=>cnd (decide (b.2.1<((a.fStates.map Bb).length:Int))) (bndR (V4 n a b.2.1) fun e=>aap b.2.2 e 24 fun f=>(Pw n a c d) (b.1+1,(aA .i64 (b.2.1+1)),f))<|c b.1 b.2.2
def Mc (n:Nat)(a:Ai):Option ((List (List Bool))):=arz 7003<|reg<|Pw n a (fun c d=>Ib n a c (fun b=>frq 7003 b<|reg<|some (aval b)) n (0,d)) n (0,0,([],[]))
def Mb (n:Nat)(h:Int)(a:A0)(c:(List Bh)->Option ((List Bh))):Nat->Int×(List Bh)->Option ((List Bh)) |0,_=>none |d+1,b=>cnd (decide (b.1<((a.fBindings.map Ar).length:Int))) (reg<|idx a.fBindings b.1 fun f=>cnd (decide (f.fVar=h)) (idx a.fBindings b.1 fun e=>app b.2 ([⟨e.fRef.fTime,e.fRef.fSource,e.fRef.fSeq⟩]) 24 fun g=>(Mb n h a c d) ((aA .i64 (b.1+1)),g))<|(Mb n h a c d) ((aA .i64 (b.1+1)),b.2))<|c b.2
def S5 (n:Nat)(c:A0)(a:Int):Option ((List Bh)):=Mb n a c (fun b=>some b) n (0,[])
def Pv (n:Nat)(a:(List Bh))(g:(List Bh))(c:Option (Bool)):Nat->Int->Option (Bool) |0,_=>none |f+1,b=>cnd (decide (b<((a.map Bf).length:Int))) (idx a b fun d=>idx g b fun e=>cnd (!(decide (d.fTime=e.fTime) && (decide (d.fSource=e.fSource) && (decide (d.fSeq=e.fSeq) && true)))) (some false)<|(Pv n a g c f) (aA .i64 (b+1)))<|c
def Un (n:Nat)(e:A0)(d:A0)(c:Int):Option (Bool):=bnd (S5 n e c) fun b=>bnd (S5 n d c) fun a=>cnd (!decide (((b.map Bf).length:Int)=((a.map Bf).length:Int))) (some false)<|Pv n b a (some true) n 0
def Km (n:Nat)(a:A0)(e:A0)(f:(List (List Bool)))(c:Int)(b:Int->Option (Bool))(d:Bool):Option (Bool):=cnd (d) (some false)<|b (aA .i64 (c+1))
def Gi (n:Nat)(h:A0)(a:A0)(i:(List (List Bool)))(b:Option (Bool)):Nat->Int->Option (Bool) |0,_=>none |d+1,c=>cnd (decide (c<16)) (jon (Km n h a i c (Gi n h a i b d))<|reg<|idx i a.fState fun e=>idx e c fun f=>cnd (f) (bnd (Un n a h c) fun g=>Km n h a i c (Gi n h a i b d) !(g))<|Km n h a i c (Gi n h a i b d) false)<|b
def Kl (n:Nat)(a:A0)(e:A0)(f:(List (List Bool)))(c:Int)(b:Int->Option (Bool))(d:Bool):Option (Bool):=cnd (d) (some false)<|b (aA .i64 (c+1))
def I7 (n:Nat)(i:A0)(a:A0)(j:(List (List Bool)))(c:Option (Bool)):Nat->Int->Option (Bool) |0,_=>none |d+1,b=>cnd (decide (b<((a.fStarts.map Ae).length:Int))) (jon (Kl n i a j b (I7 n i a j c d))<|reg<|idx a.fStarts b fun e=>idx i.fStarts b fun f=>cnd (!decide (e.fScope=f.fScope)) (Kl n i a j b (I7 n i a j c d) true)<|idx a.fStarts b fun g=>idx i.fStarts b fun h=>Kl n i a j b (I7 n i a j c d) (decide (g.fTime<h.fTime)))<|c
def Ko (n:Nat)(a:A0)(c:A0)(d:(List (List Bool)))(b:Bool):Option (Bool):=cnd (b) (some false)<|I7 n a c d (Gi n a c d (some true) n 0) n 0
def Lv (n:Nat)(c:(List (List Bool)))(b:A0)(a:A0):Option (Bool):=jon (Ko n a b c)<|reg<|cnd (!decide (b.fState=a.fState)) (Ko n a b c true)<|Ko n a b c (!decide (((b.fStarts.map Ae).length:Int)=((a.fStarts.map Ae).length:Int)))
def Fm (n:Nat)(a:(List A0))(i:(List (List Bool)))(d:Int×(List A0))(c:Bool->Option ((List A0))):Nat->Bool×Int->Option ((List A0)) |0,_=>none |e+1,b=>cnd (decide (b.2<((a.map A4).length:Int))) (reg<|cnd (!decide (b.2=d.1)) (idx a b.2 fun f=>idx a d.1 fun g=>bnd (Lv n i f g) fun h=>cnd (h) (cnd (decide (b.2<d.1)) ((Fm n a i d c e) (false,(aA .i64 (b.2+1))))<|idx a d.1 fun j=>idx a b.2 fun k=>bnd (Lv n i j k) fun l=>cnd (!(l)) ((Fm n a i d c e) (false,(aA .i64 (b.2+1))))<|(Fm n a i d c e) (b.1,(aA .i64 (b.2+1))))<|(Fm n a i d c e) (b.1,(aA .i64 (b.2+1))))<|(Fm n a i d c e) (b.1,(aA .i64 (b.2+1))))<|c b.1
def Gh (n:Nat)(a:(List A0))(h:(List (List Bool)))(c:(List A0)->Option ((List A0))):Nat->Int×(List A0)->Option ((List A0)) |0,_=>none |d+1,b=>cnd (decide (b.1<((a.map A4).length:Int))) (Fm n a h b (fun e=>reg<|cnd (e) (idx a b.1 fun f=>app b.2 [f] 56 fun g=>(Gh n a h c d) ((aA .i64 (b.1+1)),g))<|(Gh n a h c d) ((aA .i64 (b.1+1)),b.2)) n (true,0))<|c b.2
def Qv (n:Nat)(c:(List (List Bool)))(a:(List A0)):Option ((List A0)):=Gh n a c (fun b=>some b) n (0,[])
def Y3 (n:Nat)(g:Bool)(h:(List A8))(i:Ai)(a:(List (List Bool)))(b:Int×(List (List A0)))(c:(Int×(List (List A0)))->Option ((List (List A0))×Int))(d:(List A0)):Option ((List (List A0))×Int):=bldS ([d]:List (List A0)) fun e=>app b.2 e 24 fun f=>c ((aA .i64 (b.1+1)),f)
def Y4 (n:Nat)(g:Bool)(h:(List A8))(i:Ai)(a:(List (List Bool)))(c:Int×(List (List A0)))(b:(Int×(List (List A0)))->Option ((List (List A0))×Int))(d:(List A0)×(List Ac))(e:Bool):Option ((List (List A0))×Int):=cnd (e) (some ([],17))<|cnd (decide (0<((d.2.map Au).length:Int))) (some ([],22))<|jon (Y3 n g h i a c b)<|reg<|cnd (g) (bnd (Qv n a d.1) fun f=>Y3 n g h i a c b f)<|Y3 n g h i a c b d.1
def z03 (n:Nat)(k:Bool)(a:(List A8))(i:Ai)(j:(List (List Bool)))(c:(List (List A0))->Option ((List (List A0))×Int)):Nat->Int×(List (List A0))->Option ((List (List A0))×Int) |0,_=>none |d+1,b=>cnd (decide (b.1<((a.map A6).length:Int))) (nat b.1 (List.map (fun q=>AV.sl 3 (List.map A4 q)) (b.2)).length fun f=>elt b.2 f fun g=>idx a b.1 fun h=>bnd (S1 n i a g h) fun e=>jon (Y4 n k a i j b (z03 n k a i j c d) e)<|reg<|cnd (decide (4096<((e.1.map A4).length:Int))) (Y4 n k a i j b (z03 n k a i j c d) e true)<|Y4 n k a i j b (z03 n k a i j c d) e (decide (4096<((e.2.map Au).length:Int))))<|c b.2
def Ka (n:Nat)(a:(List B6))(g:(List A8))(h:Ai)(b:Int)(d:Int->Option (Int))(e:Bool):Option (Int):=cnd (e) (some 14)<|idx a b fun c=>bnd (Me n g (⟨c.fRef.fTime,c.fRef.fSource,c.fRef.fSeq⟩:Bh)) fun f=>cnd (!(f.2)) (some 6)<|d (aA .i64 (b+1))
def Kb (n:Nat)(a:(List B6))(h:(List A8))(i:Ai)(b:Int)(c:Int->Option (Int))(f:Bool):Option (Int):=cnd (f) (some 2)<|jon (Ka n a h i b c)<|reg<|cnd (decide (0<b)) (idx a (aA .i64 (b-1)) fun d=>idx a b fun e=>bnd (Mh n (⟨d.fRef.fTime,d.fRef.fSource,d.fRef.fSeq⟩:Bh) (⟨e.fRef.fTime,e.fRef.fSource,e.fRef.fSeq⟩:Bh)) fun g=>Ka n a h i b c (decide (0<=g)))<|Ka n a h i b c false
def Gf (n:Nat)(a:(List B6))(h:(List A8))(g:Ai)(b:Option (Int)):Nat->Int->Option (Int) |0,_=>none |d+1,c=>cnd (decide (c<((a.map Ar).length:Int))) (jon (Kb n a h g c (Gf n a h g b d))<|reg<|idx a c fun e=>cnd (decide (e.fVar<0)) (Kb n a h g c (Gf n a h g b d) true)<|idx a c fun f=>Kb n a h g c (Gf n a h g b d) (decide (g.fVars<=f.fVar)))<|b
def Y0 (n:Nat)(c:Ai)(b:(List A8))(a:(List B6)):Option (Int):=cnd (decide (4096<=((a.map Ar).length:Int))) (some 5)<|Gf n a b c (some 0) n 0
def Kp (n:Nat)(a:(List Ak))(e:Ai)(c:Int)(b:Int->Option (Int))(d:Bool):Option (Int):=cnd (d) (some 14)<|b (aA .i64 (c+1))
def Gj (n:Nat)(a:(List Ak))(g:Ai)(b:Int)(c:Int->Option (Int))(d:Bool):Option (Int):=cnd (d) (some 2)<|jon (Kp n a g b c)<|reg<|cnd (decide (0<b)) (idx a (aA .i64 (b-1)) fun e=>idx a b fun f=>Kp n a g b c (decide (f.fScope<=e.fScope)))<|Kp n a g b c false
def Fn (n:Nat)(a:(List Ak))(i:Ai)(c:Option (Int)):Nat->Int->Option (Int) |0,_=>none |d+1,b=>cnd (decide (b<((a.map Ae).length:Int))) (jon (Gj n a i b (Fn n a i c d))<|reg<|idx a b fun e=>cnd (decide (e.fScope<0)) (Gj n a i b (Fn n a i c d) true)<|idx a b fun f=>cnd (decide (i.fScopes<=f.fScope)) (Gj n a i b (Fn n a i c d) true)<|idx a b fun g=>cnd (decide (g.fTime<0)) (Gj n a i b (Fn n a i c d) true)<|idx a b fun h=>Gj n a i b (Fn n a i c d) (decide (1099511627776<h.fTime)))<|c
def Ya (n:Nat)(b:Ai)(a:(List Ak)):Option (Int):=Fn n a b (some 0) n 0
def Kt (n:Nat)(c:A0)(f:(List A8))(d:Ai)(b:Bool):Option (Int):=cnd (b) (some 21)<|bnd (Y0 n d f c.fBindings) fun a=>cnd (!decide (a=0)) (some a)<|bnd (Ya n d c.fStarts) fun e=>some e
def Qy (n:Nat)(b:Ai)(c:(List A8))(a:A0):Option (Int):=jon (Kt n a c b)<|reg<|cnd (decide (a.fState<0)) (Kt n a c b true)<|Kt n a c b (decide (((b.fStates.map Bb).length:Int)<=a.fState))
def Lf (n:Nat)(a:Bc)(g:(List A8))(h:Ai)(e:Int)(f:(List A0))(c:Int)(b:Int->Option (Int))(d:Bool):Option (Int):=cnd (d) (some 14)<|b (aA .i64 (c+1))
def Ig (n:Nat)(m:Bc)(a:(List A8))(i:Ai)(d:Int)(c:(List A0))(e:Option (Int)):Nat->Int->Option (Int) |0,_=>none |f+1,b=>cnd (decide (b<((c.map A4).length:Int))) (sls a 0 d fun h=>idx c b fun j=>bnd (Qy n i h j) fun g=>cnd (!decide (g=0)) (some g)<|jon (Lf n m a i d c b (Ig n m a i d c e f))<|reg<|cnd (decide (0<b)) (idx c (aA .i64 (b-1)) fun k=>idx c b fun l=>bnd (Ih n k l) fun o=>Lf n m a i d c b (Ig n m a i d c e f) (decide (0<=o)))<|Lf n m a i d c b (Ig n m a i d c e f) false)<|e
def Qj (n:Nat)(a:Bc)(f:(List A8))(g:Ai)(c:Option (Int)):Nat->Int->Option (Int) |0,_=>none |d+1,b=>cnd (decide (b<(((List.map (fun q=>AV.sl 3 (List.map A4 q)) (a.fSets)).length:Nat):Int))) (idx a.fSets b fun e=>cnd (decide (4096<((e.map A4).length:Int))) (some 5)<|Ig n a f g b e ((Qj n a f g c d) (aA .i64 (b+1))) n 0)<|c
def Uu (n:Nat)(c:Ai)(b:(List A8))(a:Bc):Option (Int):=cnd (!decide ((((List.map (fun q=>AV.sl 3 (List.map A4 q)) (a.fSets)).length:Nat):Int)=(aA .i64 (((b.map A6).length:Int)+1)))) (some 15)<|Qj n a b c (some 0) n 0
def Oy (n:Nat)(g:A0)(a:(List A0))(h:(List (List Bool)))(b:Option (Bool)):Nat->Int->Option (Bool) |0,_=>none |d+1,c=>cnd (decide (c<((a.map A4).length:Int))) (idx a c fun e=>bnd (Lv n h e g) fun f=>cnd (f) (some true)<|(Oy n g a h b d) (aA .i64 (c+1)))<|b
def Qk (n:Nat)(c:(List (List Bool)))(b:(List A0))(a:A0):Option (Bool):=Oy n a b c (some false) n 0
def Pa (n:Nat)(a:Bc)(i:(List A8))(l:Ai)(c:(List (List Bool))×Int)(g:Int)(e:(List A0)×(List Ac))(b:Option (Bool)):Nat->Int->Option (Bool) |0,_=>none |f+1,d=>cnd (decide (d<((e.1.map A4).length:Int))) (idx a.fSets (aA .i64 (c.2+1)) fun h=>idx e.1 d fun j=>bnd (Qk n c.1 h j) fun k=>cnd (!(k)) (some false)<|(Pa n a i l c g e b f) (aA .i64 (d+1)))<|b
def Pb (n:Nat)(a:Bc)(i:(List A8))(l:Ai)(b:(List (List Bool))×Int)(d:Option (Bool)):Nat->Int->Option (Bool) |0,_=>none |e+1,c=>idx a.fSets b.2 fun g=>cnd (decide (c<((g.map A4).length:Int))) (idx a.fSets b.2 fun h=>idx h c fun j=>idx i b.2 fun k=>bnd (Mt n l i j k) fun f=>cnd (decide (0<((f.2.map Au).length:Int))) (some false)<|Pa n a i l b c f ((Pb n a i l b d e) (aA .i64 (c+1))) n 0)<|d
def Pc (n:Nat)(e:Bc)(a:(List A8))(f:Ai)(c:Option (Bool)):Nat->(List (List Bool))×Int->Option (Bool) |0,_=>none |d+1,b=>cnd (decide (b.2<((a.map A6).length:Int))) (Pb n e a f b ((Pc n e a f c d) (b.1,(aA .i64 (b.2+1)))) n 0)<|c
def Ue (n:Nat)(c:Ai)(g:(List A8))(b:Bc):Option (Bool):=bnd (Mc n c) fun a=>idx b.fSets 0 fun f=>bnd (Rc n) fun e=>bnd (Qk n a f e) fun d=>cnd (!(d)) (some false)<|Pc n b g c (some true) n (a,0)
def Ip (n:Nat)(b:Ai)(a:(List A8))(e:Bc):Option (Int):=bnd (F5 n b a) fun d=>cnd (!decide (d=0)) (some d)<|bnd (Uu n b a e) fun c=>cnd (!decide (c=0)) (some c)<|bnd (Ue n b a e) fun f=>cnd (!(f)) (some 18)<|some 0
def Ow (n:Nat)(a:Bc)(h:(List (List Bool)))(c:(List (List A0))->Option (Bc×Int)):Nat->Int×(List (List A0))->Option (Bc×Int) |0,_=>none |d+1,b=>cnd (decide (b.1<(((List.map (fun q=>AV.sl 3 (List.map A4 q)) (a.fSets)).length:Nat):Int))) (idx a.fSets b.1 fun e=>bnd (Qv n h e) fun f=>app b.2 [f] 24 fun g=>(Ow n a h c d) ((aA .i64 (b.1+1)),g))<|c b.2
def L1 (n:Nat)(d:Ai)(f:(List A8))(c:Bc):Option (Bc×Int):=bnd (Ip n d f c) fun a=>cnd (!decide (a=0)) (some (⟨[]⟩,a))<|bnd (Mc n d) fun e=>Ow n c e (fun b=>some (⟨b⟩,0)) n (0,[])
def Hw (n:Nat)(b:Bool):Option (Bool):=some b
def Ey (n:Nat)(f:Bc)(g:(List A8))(h:Ai)(b:Bool):Option (Bool):=cnd (b) (bnd (Rk n) fun i=>some i)<|bnd (Mi n h g f) fun e=>bnd (L1 n h g f) fun a=>jon (Hw n)<|reg<|bnd (Mn n e.1 a.1) fun c=>cnd (c) (cnd (decide (e.2=a.2)) (bnd (Rk n) fun d=>Hw n d)<|Hw n false)<|Hw n false
def Xt (n:Nat)(e:Ai)(d:(List A8))(a:Bc):Option (Bool):=jon (Ey n a d e)<|reg<|bnd (Md n e d) fun b=>cnd (!(b)) (Ey n a d e true)<|bnd (V5 n a) fun c=>Ey n a d e !(c)
attribute [irreducible] I6 Km Kl Ko Y3 Y4  Ka Kb Kp Gj Kt Lf    Hw Ey
end
noncomputable section
abbrev z4q {n b a g c d e}:=jf (L7 n b a g c d e) (fun f=>⟨[(1,aI a),(2,.ptr 2 0),(5,aI c.1),(6,aI c.2),(16,.bool (f))],[(2,.box 111 (Cm g))]⟩) fun _=>L7.eq_1 ..
abbrev z4p {n b a e c}:=li (Ic n b a e c) (fun d=>⟨[(1,aI a),(2,.ptr 2 0),(5,aI d.1),(6,aI d.2)],[(2,.box 111 (Cm e))]⟩) fun _ _=>Ic.eq_2 ..
abbrev z4o {n b a c}:=li (Q4 n b a c) (fun d=>⟨[(1,.ptr 1 0),(3,aI d.1),(4,aI d.2)],[(1,.box 111 (Cm a))]⟩) fun _ _=>Q4.eq_2 ..
abbrev z4j {n}:=jt (Eh n) (fun b=>⟨[(12,.bool (b))],[]⟩) fun _=>Eh.eq_1 ..
abbrev z4k {n a}:=jt (Fu n a) (fun b=>⟨[(3,aI a),(4,.bool (b))],[]⟩) fun _=>Fu.eq_1 ..
abbrev z5z {n b}:=jf (Ii n b) (fun c=>⟨[(2,.bool (c)),(3,.bool (b))],[]⟩) fun _=>Ii.eq_1 ..
abbrev z60 {n a}:=jf (Ll n a) (fun b=>⟨[(0,aI a),(4,.bool (b))],[]⟩) fun _=>Ll.eq_1 ..
abbrev z4r {n}:=jf (Gq n) (fun b=>⟨[(4,.bool (b))],[]⟩) fun _=>Gq.eq_1 ..
abbrev z62 {n}:=jf (Ca n) (fun b=>⟨[(130,.bool (b))],[]⟩) fun _=>Ca.eq_1 ..
abbrev z63 {n d a b}:=jf (Gw n d a b) (fun c=>⟨[(1,.ptr 1 0),(4,.bool (a.1)),(5,.bool (a.2)),(6,.bool (decide (d.fOp=4))),(7,.bool (b)),(95,.bool (c))],[(1,.box 111 (Cm d))]⟩) fun _=>Gw.eq_1 ..
abbrev z64 {n c a b}:=jt (Lm n c a b) (fun _=>⟨[(1,.ptr 1 0),(4,.bool (a.1)),(5,.bool (a.2)),(6,.bool (decide (c.fOp=4))),(7,.bool (b))],[(1,.box 111 (Cm c))]⟩) fun _=>Lm.eq_1 ..
abbrev z65 {n c a}:=jf (Ln n c a) (fun b=>⟨[(1,.ptr 1 0),(4,.bool (a.1)),(5,.bool (a.2)),(6,.bool (decide (c.fOp=4))),(7,.bool (b))],[(1,.box 111 (Cm c))]⟩) fun _=>Ln.eq_1 ..
abbrev z67 {n c a}:=jf (Ij n c a) (fun b=>⟨[(1,.ptr 1 0),(4,.bool (a.1)),(5,.bool (a.2)),(6,.bool (decide (c.fOp=4))),(62,.bool (b))],[(1,.box 111 (Cm c))]⟩) fun _=>Ij.eq_1 ..
abbrev z68 {n c a}:=jf (E4 n c a) (fun b=>⟨[(1,.ptr 1 0),(4,.bool (a.1)),(5,.bool (a.2)),(48,.bool (b))],[(1,.box 111 (Cm c))]⟩) fun _=>E4.eq_1 ..
abbrev z4i {n b a c}:=li (Q3 n b a c) (fun d=>⟨[(1,.ptr 1 0),(4,aI d)],[(1,.box 111 (Cm a))]⟩) fun _ _=>Q3.eq_2 ..
attribute [instance] z4q z4p z4o z4j z4k z5z z60 z4r z62 z63 z64 z65 z67 z68 z4i
def z9f (r:Int):AV:=aI (r)
theorem z3y {n d c r}(b:Fz n d c=some r):Con E0 true 95 [Av d,aI c] (aI r):=by
 induction n generalizing d c r
 case zero=>cases b
 case succ n e =>
 unfold Fz at b;refine cw Tryz.func95 ?_;repeat' first
  |refine AW.jI b (fun v b=>?_) fun b=>?_
  |refine aG b fun b=>?_
  |refine aE [3] ?_;conv=>whnf
  |refine Aa.o b (fun b=>?_) fun b=>?_
  |refine aF b D4 (fun x b=>?_)
  |refine Af.o b z9f (fun a h=>e h) (fun a b=>?_)
  |exact ⟨_,b,aB []⟩
  |refine Ax.I b (aB []) fun m v b=>?_
  |exact aC b
instance zjv {n b a}:CI E0 (Fz n b a) true 95 [Av b,aI a] aI:=⟨z3y⟩
def z9e (r:Int):AV:=aI (r)
theorem z3x {n c r}(b:Fy n c=some r):Con E0 true 96 [Av c] (aI r):=by
 induction n generalizing c r
 case zero=>cases b
 case succ n d =>
 unfold Fy at b;refine cw Tryz.func96 ?_;repeat' first
  |refine aJ ?_;conv=>whnf
  |refine Aa.o b (fun b=>?_) fun b=>?_
  |refine aF b D4 (fun x b=>?_)
  |refine Af.o b z9e (fun a h=>d h) (fun a b=>?_)
  |exact ⟨_,b,aB []⟩
  |refine Ax.I b (aB []) fun m v b=>?_
  |exact aC b
instance zju {n a}:CI E0 (Fy n a) true 96 [Av a] aI:=⟨z3x⟩
instance zjr {n a}:CI E0 (Uq n a) true 235 [aI a] aI:=by unfold Uq;exact aD [2,3,4,5,10,11,12,13,14,15] Tryz.func235
instance zl0 {n a}:CI E0 (Rr n a) true 234 [aI a] (fun r=>.tup [.bool (r.1),.bool (r.2)]):=by unfold Rr;exact aD [1,2] Tryz.func234
instance zk2 {n a}:CI E0 (Ha n a) true 236 [Ag a] aI:=by unfold Ha;exact aD [] Tryz.func236
instance zjy {n b a}:CI E0 (Mg n b a) true 237 [aI b,Ag a] (fun r=>.bool (r)):=by unfold Mg;exact aD [1] Tryz.func237
instance zl2 {n c}:CI E0 (Uy n c) true 209 [Av c] aI:=⟨fun {r} b=>by
 unfold Uy at b;refine cw Tryz.func209 ?_;repeat' first
  |refine AW.jI b (fun v b=>?_) fun b=>?_
  |refine AW.jI2 b (fun v b=>?_) fun b=>?_
  |refine aG b fun b=>?_
  |refine aE [7,10,12,13,17,19] ?_;conv=>whnf
  |refine Aa.o b (fun b=>?_) fun b=>?_
  |refine Aa.t ?_
  |refine Aa.f ?_
  |refine Af.I b fun a b=>?_
  |exact ⟨_,b,aB []⟩
  |exact ⟨(),b,aB []⟩
  |refine EqX.A ?_
  |exact aC b⟩
def z9d (r:Int):AV:=aI (r)
theorem z3w {n c r}(b:H9 n c=some r):Con E0 true 179 [Av c] (aI r):=by
 induction n generalizing c r
 case zero=>cases b
 case succ n d =>
 unfold H9 at b;refine cw Tryz.func179 ?_;repeat' first
  |refine aJ ?_;conv=>whnf
  |refine Aa.o b (fun b=>?_) fun b=>?_
  |refine Af.I b fun a b=>?_
  |refine aF b D4 (fun x b=>?_)
  |refine Af.o b z9d (fun a h=>d h) (fun a b=>?_)
  |exact ⟨_,b,aB []⟩
  |refine Ax.I b (aB []) fun m v b=>?_
  |exact aC b
instance zjq {n a}:CI E0 (H9 n a) true 179 [Av a] aI:=⟨z3w⟩
end
noncomputable section
abbrev z7h {n}:=jf (M1 n) (fun b=>⟨[(4,.bool (b))],[]⟩) fun _=>M1.eq_1 ..
abbrev z3c {n a e b c}:=li (Pg n a e b c) (fun d=>⟨[(1,.sl 11 (a.map Be)),(2,.ptr 2 0),(5,aI b),(6,aI d)],[(2,.box 25 (B4 e))]⟩) fun _ _=>Pg.eq_2 ..
abbrev z3e {n a e b c}:=jf (Ia n a e b c) (fun d=>⟨[(1,.sl 11 (a.map Be)),(2,.ptr 2 0),(5,aI b),(44,.bool (d))],[(2,.box 25 (B4 e))]⟩) fun _=>Ia.eq_1 ..
abbrev z3d {n a d b}:=li (Fo n a d b) (fun c=>⟨[(1,.sl 11 (a.map Be)),(2,.ptr 2 0),(5,aI c)],[(2,.box 25 (B4 d))]⟩) fun _ _=>Fo.eq_2 ..
abbrev z3a {n a e b c}:=li (Pf n a e b c) (fun d=>⟨[(0,.sl 1 (e.map aI)),(1,aI a),(5,aI b),(6,aI d)],[]⟩) fun _ _=>Pf.eq_2 ..
abbrev z3b {n a d b}:=li (Ku n a d b) (fun c=>⟨[(0,.sl 1 (d.map aI)),(1,aI a),(5,aI c)],[]⟩) fun _ _=>Ku.eq_2 ..
abbrev z49 {n a b}:=li (L3 n a b) (fun c=>⟨[(3,.ptr 3 0),(10,aI c)],[(3,.box 115 (C7 a))]⟩) fun _ _=>L3.eq_2 ..
abbrev z4a {n a e b c}:=li (Gn n a e b c) (fun d=>⟨[(2,.ptr 2 0),(3,.ptr 3 0),(7,.sl 1 [.sl 1 (a.fOpens.map aI),.sl 1 (a.fCloses.map aI),.sl 1 (a.fInside.map aI),.sl 1 (b.map aI)]),(8,aI d)],[(2,.box 25 (B4 e)),(3,.box 115 (C7 a))]⟩) fun _ _=>Gn.eq_2 ..
abbrev z4b {n a d b}:=li (Pz n a d b) (fun c=>⟨[(2,.ptr 2 0),(3,.ptr 3 0),(5,.row 7026),(6,aI c.1)],[(2,.box 25 (B4 d)),(3,.box 115 (C7 a)),(7026,.row 3 1 (c.2.map aI))]⟩) fun _ _=>Pz.eq_2 ..
abbrev z5s {n a d b}:=li (Qo n a d b) (fun c=>⟨[(3,.ptr 3 0),(4,.ptr 4 0),(9,aI c)],[(3,.box 25 (B4 d)),(4,.box 115 (C7 a))]⟩) fun _ _=>Qo.eq_2 ..
abbrev z5t {n a c d}:=jf (Ds n a c d) (fun b=>⟨[(2,aI a),(3,.ptr 3 0),(4,.ptr 4 0),(42,.bool (b))],[(3,.box 25 (B4 d)),(4,.box 115 (C7 c))]⟩) fun _=>Ds.eq_1 ..
abbrev z4c {n a b}:=li (Q0 n a b) (fun c=>⟨[(1,.ptr 1 0),(5,aI c.1),(6,aI c.2)],[(1,.box 25 (B4 a))]⟩) fun _ _=>Q0.eq_2 ..
abbrev z4d {n a b}:=li (Q1 n a b) (fun c=>⟨[(1,.ptr 1 0),(3,aI c)],[(1,.box 25 (B4 a))]⟩) fun _ _=>Q1.eq_2 ..
abbrev z4e {n a}:=jf (Fq n a) (fun b=>⟨[(1,.ptr 1 0),(31,.bool (b))],[(1,.box 25 (B4 a))]⟩) fun _=>Fq.eq_1 ..
abbrev z4f {n a}:=jf (Gp n a) (fun b=>⟨[(1,.ptr 1 0),(15,.bool (b))],[(1,.box 25 (B4 a))]⟩) fun _=>Gp.eq_1 ..
attribute [instance] z7h z3c z3e z3d z3a z3b z49 z4a z4b z5s z5t z4c z4d z4e z4f
instance zjw {n a}:CI E0 (G1 n a) true 138 [Av a] aI:=by unfold G1;exact aD [] Tryz.func138
instance zns {n b a}:CI E0 (D3 n b a) true 97 [aI b,aI a] (fun r=>.bool (r)):=by unfold D3;exact aD [1] Tryz.func97
instance zhz {n b a}:CI E0 (Uh n b a) true 98 [Bj b,.sl 11 (a.map Be)] aI:=by unfold Uh;exact aD [6] Tryz.func98
instance zhy {n b a}:CI E0 (R2 n b a) true 180 [.sl 1 (b.map aI),aI a] aI:=by unfold R2;exact aD [] Tryz.func180
instance zjl {n d c}:CI E0 (Re n d c) true 139 [Bj d,B7 c] aI:=⟨fun {r} b=>by
 unfold Re at b;refine cw Tryz.func139 ?_;repeat' first
  |refine aG b fun b=>?_
  |refine AW.frzO b 7026 rfl (fun b=>?_)
  |refine aE [6] ?_;conv=>whnf
  |refine Aa.o b (fun b=>?_) fun b=>?_
  |refine IdxX.A b fun x b=>?_
  |refine Af.I b fun a b=>?_
  |exact ⟨_,b,aB []⟩
  |refine Ax.I b ?_ fun m v b=>?_
  |exact aB []
  |refine IdxX.o (fun q=>AV.sl 1 (List.map aI q)) b fun x b=>?_
  |refine AppX.oA b fun l b=>?_
  |exact ⟨_,b,aB [(7026,26)]⟩
  |exact LeX.trans (LeX.adopt 5 7026 3 1 rfl rfl) (aB [])
  |refine AndA ?_
  |exact aC b⟩
instance zky {n e d c}:CI E0 (Ux n e d c) true 99 [Bj e,B7 d,aI c] aI:=⟨fun {r} b=>by
 unfold Ux at b;refine cw Tryz.func99 ?_;repeat' first
  |refine AW.jI b (fun v b=>?_) fun b=>?_
  |refine aG b fun b=>?_
  |refine aE [2] ?_;conv=>whnf
  |refine Aa.o b (fun b=>?_) fun b=>?_
  |refine Aa.t ?_
  |refine Aa.f ?_
  |refine Af.I b fun a b=>?_
  |refine aF b D4 (fun x b=>?_)
  |exact ⟨_,b,aB []⟩
  |refine Ax.I b (aB []) fun m v b=>?_
  |exact aC b⟩
end
noncomputable section
abbrev zg3 {n b a d}:=li (Sv n b a d) (fun c=>⟨[(4,aI c.1),(5,aI c.2.1),(11,.sl 8 (a.fArgs.map idA)),(12,aI (((a.fArgs.map idA).length:Int))),(13,aI c.2.2)],[]⟩) fun _ _=>Sv.eq_2 ..
abbrev zen {n a}:=jf (Nc n a) (fun b=>⟨[(0,aI a),(4,.bool (b))],[]⟩) fun _=>Nc.eq_1 ..
abbrev zfv {n}:=jt (Ng n) (fun b=>⟨[(8,.bool (b))],[]⟩) fun _=>Ng.eq_1 ..
abbrev zfw {n a}:=jt (Nh n a) (fun b=>⟨[(4,aI a),(5,.bool (b))],[]⟩) fun _=>Nh.eq_1 ..
abbrev zem {n}:=jf (Jj n) (fun b=>⟨[(4,.bool (b))],[]⟩) fun _=>Jj.eq_1 ..
abbrev zan {n}:=jf (Hg n) (fun b=>⟨[(31,.bool (b))],[]⟩) fun _=>Hg.eq_1 ..
abbrev zfx {n}:=jf (Cb n) (fun b=>⟨[(113,.bool (b))],[]⟩) fun _=>Cb.eq_1 ..
abbrev zfy {n c a b}:=jt (Ni n c a b) (fun _=>⟨[(1,.ptr 1 0),(5,.bool (a.1)),(6,.bool (a.2)),(7,.bool (decide (c.fOp=4))),(8,.bool (b))],[(1,.box 111 (Cm c))]⟩) fun _=>Ni.eq_1 ..
abbrev zg0 {n c a}:=jf (Nj n c a) (fun b=>⟨[(1,.ptr 1 0),(5,.bool (a.1)),(6,.bool (a.2)),(7,.bool (decide (c.fOp=4))),(8,.bool (b))],[(1,.box 111 (Cm c))]⟩) fun _=>Nj.eq_1 ..
abbrev zg1 {n c a}:=jf (Jk n c a) (fun b=>⟨[(1,.ptr 1 0),(5,.bool (a.1)),(6,.bool (a.2)),(7,.bool (decide (c.fOp=4))),(66,.bool (b))],[(1,.box 111 (Cm c))]⟩) fun _=>Jk.eq_1 ..
abbrev zg2 {n c a}:=jf (E9 n c a) (fun b=>⟨[(1,.ptr 1 0),(5,.bool (a.1)),(6,.bool (a.2)),(52,.bool (b))],[(1,.box 111 (Cm c))]⟩) fun _=>E9.eq_1 ..
abbrev zel {n b a c}:=li (So n b a c) (fun d=>⟨[(1,.fn 183 []),(16,.sl 8 (a.fArgs.map idA)),(17,aI (((a.fArgs.map idA).length:Int))),(18,aI d)],[]⟩) fun _ _=>So.eq_2 ..
abbrev z8x {n}:=jf (Mj n) (fun b=>⟨[(4,.bool (b))],[]⟩) fun _=>Mj.eq_1 ..
attribute [instance] zg3 zen zfv zfw zem zan zfx zfy zg0 zg1 zg2 zel z8x
instance zjm {n a}:CI E0 (J3 n a) true 63 [Bj a] aI:=by unfold J3;exact aD [1,3] Tryz.func63
def zrk (r:Int×Int):AV:=.tup [aI (r.1),aI (r.2)]
theorem zez {n c r}(b:Hm n c=some r):Con E0 true 182 [Av c] (.tup [aI r.1,aI r.2]):=by
 induction n generalizing c r
 case zero=>cases b
 case succ n d =>
 unfold Hm at b;refine cw Tryz.func182 ?_;repeat' first
  |refine aJ ?_;conv=>whnf
  |refine Aa.o b (fun b=>?_) fun b=>?_
  |refine aF b D4 (fun x b=>?_)
  |refine Af.o b zrk (fun a h=>d h) (fun a b=>?_)
  |exact ⟨_,b,aB []⟩
  |refine Ax.I b (aB []) fun m v b=>?_
  |exact aC b
instance y27 {n a}:CI E0 (Hm n a) true 182 [Av a] (fun r=>.tup [aI r.1,aI r.2]):=⟨zez⟩
instance y05 {n a}:CI E0 (Wp n a) true 210 [aI a] (fun r=>.tup [aI r.1,.bool (r.2)]):=by unfold Wp;exact aD [1] Tryz.func210
instance y24 {n a}:CI E0 (T0 n a) true 153 [aI a] (fun r=>.tup [.bool (r.1),.bool (r.2)]):=by unfold T0;exact aD [2,5] Tryz.func153
instance zzv {n a}:CI E0 (Nk n a) true 252 [Ag a] aI:=by unfold Nk;exact aD [] Tryz.func252
instance zz0 {n a}:CI E0 (Hj n a) true 238 [Ag a] aI:=by unfold Hj;exact aD [] Tryz.func238
instance y03 {n b a}:CI E0 (Wo n b a) true 239 [aI b,Ag a] (fun r=>.bool (r)):=by unfold Wo;exact aD [1] Tryz.func239
instance ztt {n a}:CI E0 (W6 n a) true 211 [Av a] aI:=by unfold W6;exact aD [4] Tryz.func211
instance y25 {n c}:CI E0 (Ws n c) true 183 [Av c] aI:=⟨fun {r} b=>by
 unfold Ws at b;refine cw Tryz.func183 ?_;repeat' first
  |refine AW.jI b (fun v b=>?_) fun b=>?_
  |refine AW.jI2 b (fun v b=>?_) fun b=>?_
  |refine aG b fun b=>?_
  |refine aE [7,10,12,13,17] ?_;conv=>whnf
  |refine Aa.o b (fun b=>?_) fun b=>?_
  |refine Aa.t ?_
  |refine Aa.f ?_
  |refine Af.I b fun a b=>?_
  |exact ⟨_,b,aB []⟩
  |exact ⟨(),b,aB []⟩
  |refine EqX.A ?_
  |exact aC b⟩
def zou (r:Int):AV:=aI (r)
theorem zcn {n c r}(b:Hk n c=some r):Con E0 true 151 [Av c,.fn 183 []] (aI r):=by
 induction n generalizing c r
 case zero=>cases b
 case succ n d =>
 unfold Hk at b;refine cw Tryz.func151 ?_;repeat' first
  |refine aJ ?_;conv=>whnf
  |refine Aa.o b (fun b=>?_) fun b=>?_
  |refine Af.I b fun a b=>?_
  |refine aF b D4 (fun x b=>?_)
  |refine Af.o b zou (fun a h=>d h) (fun a b=>?_)
  |exact ⟨_,b,aB []⟩
  |refine Ax.I b (aB []) fun m v b=>?_
  |exact aC b
instance y02 {n a}:CI E0 (Hk n a) true 151 [Av a,.fn 183 []] aI:=⟨zcn⟩
instance y06 {n a}:CI E0 (Hl n a) true 143 [Av a] aI:=by unfold Hl;exact aD [] Tryz.func143
instance zp3 {n b a}:CI E0 (F8 n b a) true 140 [aI b,aI a] (fun r=>.bool (r)):=by unfold F8;exact aD [1] Tryz.func140
end
end Go.Proofs.YtidhlpjgifoneaaGreat
