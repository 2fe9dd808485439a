/- What some functions compute, over plain values. -/
import Derived.Test.YthbogefcfhmpgaaGreatK15
set_option linter.unusedVariables false
set_option linter.unusedSimpArgs false
set_option maxRecDepth 100000
set_option maxHeartbeats 8000000
namespace Go.Proofs.YthbogefcfhmpgaaGreat
open Go.RowKit List
open IntKind renaming wrap->aA
open List renaming getD_eq_getElem?_getD->aB
open Or renaming inl->aC,inr->aD
noncomputable section
structure Ht where
 fTypes:(List Ah)
 fA:A9
 fRate:Int
deriving Inhabited
def Js (n:Nat)(a0:(List Ah))(c:Int)(b:Int->Option (Bool))(d:Bool):Option (Bool) :=
 cnd (d)
  (some false)
 <| b (aA .i64 (c+1))
def Hm (n:Nat)(a0:(List Ah))(b:Option (Bool)):Nat->Int->Option (Bool)
 |0,_=>none
 |d+1,c =>
  cnd (decide (c<((a0.map Al).length:Int)))
   (jon (Js n a0 c (Hm n a0 b d)) <|
   reg <| idx a0 c fun e =>
   cnd (decide (20<((e.fFields.map C7).length:Int)))
    (Js n a0 c (Hm n a0 b d) true)
   <| idx a0 c fun f =>
   Js n a0 c (Hm n a0 b d) (decide (100<((f.fName.size:Nat):Int))))
  <| b
def Wr (n:Nat)(a0:(List Ah)):Option (Bool) :=
 Hm n a0
  (some (decide (((a0.map Al).length:Int)<=20))) n 0
def Gh (n:Nat)(b:Bool):Option (Bool) :=
 some b
def N1 (n:Nat)(a0:(List Ah))(a1:A9):Option (Bool) :=
 jon (Gh n) <|
 reg <| bnd (Wr n a0) fun x4 =>
 cnd (x4)
  (bnd (Tk n a1) fun x5 =>
  cnd (x5)
   (cnd (decide (((a1.fStates.map Aq).length:Int)<=8))
     (Gh n (decide (((a1.fEdges.map Ab).length:Int)<=16)))
   <| Gh n false)
  <| Gh n false)
 <| Gh n false
def Vo (n:Nat)(a0:Ht):Option (Bool) :=
 bnd (N1 n a0.fTypes a0.fA) fun x1 =>
 some x1
def Hr (n:Nat):Option (Ap) :=
 bnd (D7 n true) fun x1 =>
 some (⟨0,[],0,0,0,x1⟩)
def Zk (n:Nat)(a0:Ap):Option (A9) :=
 mak 2 24 (⟨[]⟩:Cb) fun x1 =>
 bnd (Hr n) fun x2 =>
 bld ([⟨0,1,0,0,x2,[],[],[],[],[]⟩,⟨1,(-1),1,0,a0,[],[],[],[],[]⟩]:List Ai) fun x3 =>
 some (⟨2,1,x1,x3⟩)
def Vw (n:Nat):Option (A9) :=
 bnd (Hr n) fun x1 =>
 bndM 3 (Zk n x1) fun x2 =>
 nat 0 (x2.fEdges.map Ab).length fun x3 =>
 ltx x3 (x2.fEdges.map Ab).length <| stx x2.fEdges x3 (fun x4=>⟨x4.fFrom,x4.fTo,x4.fVar,x4.fType,x4.fCond,[0],x4.fCloses,x4.fChecks,x4.fLimits,x4.fInside⟩) fun x5 =>
 nat 0 (x5.map Ab).length fun x6 =>
 ltx x6 (x5.map Ab).length <| stx x5 x6 (fun x7=>⟨x7.fFrom,x7.fTo,x7.fVar,x7.fType,x7.fCond,x7.fOpens,x7.fCloses,x7.fChecks,[⟨0,5⟩],x7.fInside⟩) fun x8 =>
 nat 1 (x8.map Ab).length fun x9 =>
 ltx x9 (x8.map Ab).length <| stx x8 x9 (fun b=>⟨b.fFrom,b.fTo,b.fVar,b.fType,b.fCond,b.fOpens,[0],b.fChecks,b.fLimits,b.fInside⟩) fun d =>
 nat 1 (d.map Ab).length fun e =>
 ltx e (d.map Ab).length <| stx d e (fun c=>⟨c.fFrom,c.fTo,c.fVar,c.fType,c.fCond,c.fOpens,c.fCloses,c.fChecks,[⟨0,5⟩],c.fInside⟩) fun f =>
 some (⟨x2.fVars,x2.fScopes,x2.fStates,f⟩)
def P7 (n:Nat)(a0:Ap):Option (A9) :=
 mak 2 24 (⟨[]⟩:Cb) fun x1 =>
 bnd (Hr n) fun x2 =>
 some (⟨2,1,x1,[⟨0,1,0,0,x2,[],[],[],[],[]⟩,⟨1,(-1),1,0,a0,[],[],[],[],[]⟩]⟩)
def W7 (n:Nat)(a1:(List Int))(a0:(List Int))(c:Option (Bool)):Nat->Int->Option (Bool)
 |0,_=>none
 |d+1,b =>
  cnd (decide (b<((a0.map aI).length:Int)))
   (idx a0 b fun e =>
   idx a1 b fun f =>
   cnd (!decide (e=f))
    (some false)
   <| (W7 n a1 a0 c d) (aA .i64 (b+1)))
  <| c
def Zm (n:Nat)(a0:(List Int))(a1:(List Int)):Option (Bool) :=
 cnd (!decide (((a0.map aI).length:Int)=((a1.map aI).length:Int)))
  (some false)
 <| W7 n a1 a0
  (some true) n 0
def W6 (n:Nat)(a1:(List Bool))(a0:(List Bool))(c:Option (Bool)):Nat->Int->Option (Bool)
 |0,_=>none
 |d+1,b =>
  cnd (decide (b<((a0.map AV.bool).length:Int)))
   (idx a0 b fun e =>
   idx a1 b fun f =>
   cnd (!(e == f))
    (some false)
   <| (W6 n a1 a0 c d) (aA .i64 (b+1)))
  <| c
def Zl (n:Nat)(a0:(List Bool))(a1:(List Bool)):Option (Bool) :=
 cnd (!decide (((a0.map AV.bool).length:Int)=((a1.map AV.bool).length:Int)))
  (some false)
 <| W6 n a1 a0
  (some true) n 0
def Lv (n:Nat)(b:Bool):Option (Bool) :=
 cnd (b)
  (some false)
 <| bnd (Hr n) fun c =>
 bnd (P7 n c) fun d =>
 bnd (Wz n ([⟨(ByteArray.mk #[65]),[⟨(ByteArray.mk #[120]),0⟩]⟩]) d 1 (⟨2,0,[⟨0,0,0,0,[⟨0,0,ByteArray.empty⟩]⟩],1⟩:C3)) fun e =>
 some (decide (e=0))
def Dh (n:Nat)(x2:(List Int)×(List Bool)×Int)(x7:C3×Int)(b:Bool):Option (Bool) :=
 cnd (b)
  (some false)
 <| jon (Lv n) <|
 reg <| bnd (Zm n x2.1 ([0,5])) fun c =>
 cnd (!(c))
  (Lv n true)
 <| bnd (Zl n x2.2.1 ([true,true])) fun d =>
 cnd (!(d))
  (Lv n true)
 <| bnd (Hr n) fun e =>
 bnd (P7 n e) fun f =>
 bnd (Wz n ([⟨(ByteArray.mk #[65]),[⟨(ByteArray.mk #[120]),0⟩]⟩]) f 1 x7.1) fun g =>
 Lv n (!decide (g=0))
def Jv (n:Nat):Option (Bool) :=
 bnd (Vw n) fun x1 =>
 bnd (Nl n x1) fun x2 =>
 bnd (Vw n) fun x3 =>
 bnd (Eg n ([⟨(ByteArray.mk #[65]),[⟨(ByteArray.mk #[120]),0⟩]⟩]) x3 2) fun x4 =>
 bnd (Hr n) fun x5 =>
 bnd (P7 n x5) fun x6 =>
 bnd (Eg n ([⟨(ByteArray.mk #[65]),[⟨(ByteArray.mk #[120]),0⟩]⟩]) x6 1) fun x7 =>
 bnd (P7 n (⟨7,[(Ao ⟨1,[],1,0,0,⟨0,0,ByteArray.empty⟩⟩),(Ao ⟨1,[],0,0,0,⟨0,0,ByteArray.empty⟩⟩)],0,0,0,⟨0,0,ByteArray.empty⟩⟩:Ap)) fun x8 =>
 bnd (Eg n ([⟨(ByteArray.mk #[65]),[⟨(ByteArray.mk #[120]),0⟩]⟩]) x8 1) fun x9 =>
 mak 1 24 (⟨[]⟩:Cb) fun c =>
 bnd (Hr n) fun d =>
 frz 53 <| reg <| bnd (Eg n ([⟨(ByteArray.mk #[65]),[⟨(ByteArray.mk #[120]),0⟩]⟩]) (⟨1,0,c,[⟨0,(-1),0,0,d,[],[],[],[],[]⟩]⟩:A9) 1) fun b =>
 jon (Dh n x2 x7) <|
 reg <| cnd (!decide (x2.2.2=0))
  (Dh n x2 x7 true)
 <| cnd (!decide (x4.2=0))
  (Dh n x2 x7 true)
 <| cnd (!decide (x7.2=0))
  (Dh n x2 x7 true)
 <| cnd (!decide (x9.2=0))
  (Dh n x2 x7 true)
 <| cnd (!decide (b.2=0))
  (Dh n x2 x7 true)
 <| cnd (!decide (x4.1.fVerdict=1))
  (Dh n x2 x7 true)
 <| cnd (!decide (x4.1.fBound=12))
  (Dh n x2 x7 true)
 <| cnd (!decide (x7.1.fVerdict=2))
  (Dh n x2 x7 true)
 <| cnd (!decide (x9.1.fVerdict=0))
  (Dh n x2 x7 true)
 <| cnd (!decide (b.1.fVerdict=1))
  (Dh n x2 x7 true)
 <| Dh n x2 x7 (!decide (b.1.fBound=0))
attribute [irreducible] Js Gh Lv Dh     
end
noncomputable section
abbrev X6 (x:Ah):List AV:=[.str (x.fName),.sl 2 (x.fFields.map C7)]
def Iy (n:Nat)(a0:A9)(e:Int×(List Bool))(c:(List Bool)->Option ((List Bool))):Nat->Int×(List Bool)->Option ((List Bool))
 |0,_=>none
 |d+1,b =>
  cnd (decide (b.1<((a0.fEdges.map Ab).length:Int)))
   (idx a0.fEdges b.1 fun f =>
   reg <| cnd (decide (f.fTo<0))
    (nat f.fFrom (b.2.map AV.bool).length fun g =>
    stx b.2 g (fun p=>true) fun h =>
    (Iy n a0 e c d) ((aA .i64 (b.1+1)),h))
   <| nat f.fTo (b.2.map AV.bool).length fun j =>
   elt b.2 j fun k =>
   cnd (k)
    (nat f.fFrom (b.2.map AV.bool).length fun l =>
    stx b.2 l (fun q=>true) fun o =>
    (Iy n a0 e c d) ((aA .i64 (b.1+1)),o))
   <| (Iy n a0 e c d) ((aA .i64 (b.1+1)),b.2))
  <| c b.2
def L4 (n:Nat)(a0:A9)(c:(List Bool)->Option ((List Bool))):Nat->Int×(List Bool)->Option ((List Bool))
 |0,_=>none
 |e+1,b =>
  cnd (decide (b.1<((a0.fStates.map Aq).length:Int)))
   (Iy n a0 b
     (fun d=>(L4 n a0 c e) ((aA .i64 (b.1+1)),d)) n (0,b.2))
  <| c b.2
def Sr (n:Nat)(a0:A9):Option ((List Bool)) :=
 mak ((a0.fStates.map Aq).length:Int) 1 (false:Bool) fun x1 =>
 L4 n a0
  (fun b=>some b) n (0,x1)
def Lc (n:Nat)(a0:(List Bool))(c:(List Int)->Option ((List Int))):Nat->Int×(List Int)->Option ((List Int))
 |0,_=>none
 |d+1,b =>
  cnd (decide (b.1<((a0.map AV.bool).length:Int)))
   (reg <| idx a0 b.1 fun e =>
   cnd (e)
    (app b.2 [b.1] 8 fun f =>
    (Lc n a0 c d) ((aA .i64 (b.1+1)),f))
   <| (Lc n a0 c d) ((aA .i64 (b.1+1)),b.2))
  <| c b.2
def Sy (n:Nat)(a0:(List Bool)):Option ((List Int)) :=
 Lc n a0
  (fun b=>some b) n (0,[])
def W5 (n:Nat)(a0:A9):Option ((List Int)×Int) :=
 bnd (E9 n a0) fun x1 =>
 cnd (!decide (x1=0))
  (some ([],x1))
 <| bnd (Sr n a0) fun x2 =>
 bnd (Sy n x2) fun x3 =>
 some (x3,0)
def En (n:Nat)(b:Bool):Option (Bool) :=
 some b
def Q4 (n:Nat)(a0:Int):Option (Bool) :=
 jon (En n) <|
 reg <| cnd (decide (97<=a0))
  (cnd (decide (a0<=122))
    (En n true)
  <| cnd (decide (65<=a0))
   (cnd (decide (a0<=90))
     (En n true)
   <| En n (decide (a0=95)))
  <| En n (decide (a0=95)))
 <| cnd (decide (65<=a0))
  (cnd (decide (a0<=90))
    (En n true)
  <| En n (decide (a0=95)))
 <| En n (decide (a0=95))
def Jj (n:Nat)(a0:ByteArray)(c:Int)(b:Int->Option (Bool))(d:Bool):Option (Bool) :=
 cnd (d)
  (some false)
 <| b (aA .i64 (c+1))
def Hi (n:Nat)(a0:ByteArray)(b:Option (Bool)):Nat->Int->Option (Bool)
 |0,_=>none
 |d+1,c =>
  cnd (decide (c<((a0.size:Nat):Int)))
   (jon (Jj n a0 c (Hi n a0 b d)) <|
   reg <| idb a0 c fun e =>
   bnd (Q4 n e) fun f =>
   cnd (!(f))
    (idb a0 c fun g =>
    cnd (decide (g<48))
     (Jj n a0 c (Hi n a0 b d) true)
    <| idb a0 c fun h =>
    Jj n a0 c (Hi n a0 b d) (decide (57<h)))
   <| Jj n a0 c (Hi n a0 b d) false)
  <| b
def Fg (n:Nat)(a0:ByteArray)(b:Bool):Option (Bool) :=
 cnd (b)
  (some false)
 <| Hi n a0
  (some true) n 0
def Qp (n:Nat)(a0:ByteArray):Option (Bool) :=
 jon (Fg n a0) <|
 reg <| cnd (decide (((a0.size:Nat):Int)=0))
  (Fg n a0 true)
 <| cnd (decide (24<((a0.size:Nat):Int)))
  (Fg n a0 true)
 <| idb a0 0 fun b =>
 bnd (Q4 n b) fun c =>
 Fg n a0 !(c)
def Ol (n:Nat)(a1:ByteArray)(a0:Ah)(c:Option (Int)):Nat->Int->Option (Int)
 |0,_=>none
 |d+1,b =>
  cnd (decide (b<((a0.fFields.map C7).length:Int)))
   (idx a0.fFields b fun e =>
   cnd ((e.fName.toList == a1.toList))
    (some b)
   <| (Ol n a1 a0 c d) (aA .i64 (b+1)))
  <| c
def Vq (n:Nat)(a0:Ah)(a1:ByteArray):Option (Int) :=
 Ol n a1 a0
  (some (-1)) n 0
def Ja (n:Nat)(a0:Ah)(c:Int)(b:Int->Option (Int))(d:Bool):Option (Int) :=
 cnd (d)
  (some 1)
 <| b (aA .i64 (c+1))
def He (n:Nat)(a0:Ah)(c:Int)(b:Int->Option (Int))(d:Rj)(e:Bool):Option (Int) :=
 cnd (e)
  (some 8)
 <| bnd (Vq n a0 d.fName) fun f =>
 cnd (decide (f<c))
  (some 7)
 <| jon (Ja n a0 c b) <|
 reg <| cnd (!decide (d.fKind=0))
  (cnd (!decide (d.fKind=1))
    (Ja n a0 c b (!decide (d.fKind=2)))
  <| Ja n a0 c b false)
 <| Ja n a0 c b false
def Hd (n:Nat)(a0:Ah)(b:Option (Int)):Nat->Int->Option (Int)
 |0,_=>none
 |d+1,c =>
  cnd (decide (c<((a0.fFields.map C7).length:Int)))
   (idx a0.fFields c fun e =>
   jon (He n a0 c (Hd n a0 b d) e) <|
   reg <| bnd (Qp n e.fName) fun f =>
   cnd (!(f))
    (He n a0 c (Hd n a0 b d) e true)
   <| He n a0 c (Hd n a0 b d) e (e.fName.toList == (ByteArray.mk #[116,105,109,101]).toList))
  <| b
def T7 (n:Nat)(a0:Ah):Option (Int) :=
 bnd (Qp n a0.fName) fun x1 =>
 cnd (!(x1))
  (some 8)
 <| cnd (decide (8<((a0.fFields.map C7).length:Int)))
  (some 5)
 <| Hd n a0
  (some 0) n 0
def Pm (n:Nat)(a1:ByteArray)(a0:(List Ah))(c:Option (Int)):Nat->Int->Option (Int)
 |0,_=>none
 |d+1,b =>
  cnd (decide (b<((a0.map Al).length:Int)))
   (idx a0 b fun e =>
   cnd ((e.fName.toList == a1.toList))
    (some b)
   <| (Pm n a1 a0 c d) (aA .i64 (b+1)))
  <| c
def Wf (n:Nat)(a0:(List Ah))(a1:ByteArray):Option (Int) :=
 Pm n a1 a0
  (some (-1)) n 0
def Om (n:Nat)(a0:(List Ah))(c:Option (Int)):Nat->Int->Option (Int)
 |0,_=>none
 |d+1,b =>
  cnd (decide (b<((a0.map Al).length:Int)))
   (idx a0 b fun f =>
   bnd (T7 n f) fun e =>
   cnd (!decide (e=0))
    (some e)
   <| idx a0 b fun g =>
   bnd (Wf n a0 g.fName) fun h =>
   cnd (decide (h<b))
    (some 7)
   <| (Om n a0 c d) (aA .i64 (b+1)))
  <| c
def Pn (n:Nat)(a0:(List Ah)):Option (Int) :=
 cnd (decide (16<((a0.map Al).length:Int)))
  (some 5)
 <| Om n a0
  (some 0) n 0
def Lm (n:Nat)(b:Bool):Option (Int) :=
 cnd (b)
  (some 2)
 <| some 0
def Qa (n:Nat)(a0:(List Ah))(a1:A9)(a2:Int):Option (Int) :=
 bnd (Pn n a0) fun x1 =>
 cnd (!decide (x1=0))
  (some x1)
 <| bnd (E9 n a1) fun x2 =>
 cnd (!decide (x2=0))
  (some x2)
 <| jon (Lm n) <|
 reg <| cnd (decide (a2<1))
  (Lm n true)
 <| Lm n (decide (4096<a2))
attribute [irreducible] En Jj Fg Ja He Lm     
end
noncomputable section
end
section
variable {cx:Cx} {o:Oper} {σ:AS}
theorem zl9 {T id q k ty ety:Nat}{x y:Operand}{i:TyI}{idx:List (Option Nat)}{os:List NE}{xs:List AV}(ho:o.op=.store T x y)(hd:dok cx o=true)(hxo:A5 x=true)(hyo:A5 y=true)(hx:σ.eval x=.der (.nelt k) id)(hy:σ.eval y=.row q)(hT:lkT cx.E.tab T=some i)(hi1:i.sz=1)(hl:σ.find id=some (.are ty idx os))(hq:σ.find q=some (.row ety 1 xs))(hk:k<idx.length)(hne:id≠q) :
  Ag cx o σ (.tup []) [id,q] [(id,.are ty (idx.set k (some os.length)) (os++[.row ety 1 xs])),(q,.dead)]:=by
 refine ⟨fun i e he=>zrw he,fun τ h1 h2 a w Q K ⟨γ,hst⟩ hK=>Bu (fun c hc=>by rw [ho] at hc;cases hc) ?_⟩
 have ex:=hst.ev x hxo
 rw [h1 x (by simp [ho,Op.operands]),hx] at ex
 have ey:=hst.ev y hyo
 rw [h1 y (by simp [ho,Op.operands]),hy] at ey
 obtain ⟨s,vs,us,hg,hs1,hsz,hown,hone,hix,hnn,hdb⟩:=O6 hst (by rw [h2 id (by simp)];exact hl)
 obtain ⟨s2,ws,hγq,hn1,ho1,ho2,ho3,ho4⟩:=V5 (id:=q) hst (by rw [h2 q (by simp)];exact hq)
 obtain ⟨ob1,ob2⟩:=Rs ho1
 have hev:a.eval y=s2:=ey.row_inv hγq (Nt hn1)
 have hcs2:s2.cells=#[s2]:=by rcases ho1.2 with ⟨h,_⟩|⟨_,_,_,h,_⟩<;>rw [h]<;>rfl
 have hb2:∀ b,b∈blks (some (s2.ownBlock,s2)) ↔ Az s2=some b:=fun b=>V4 ob1 ob2
 have hul:us.length=idx.length*1:=hown.1
 obtain ⟨g,cap,cur,hsv,hbase,hh,hncap,hmx,hcs,htk⟩:∃ g cap cur,s=.slice (some ⟨g,0,none⟩) idx.length cap/\cx.w0.heap.size<=g/\w.heap[g]? = some (.cells cur ty (0,0))/\idx.length<=cap/\cap<=maxLen/\cur.size=cap*1/\cur.toList.take (idx.length*1)=us:=by
  rcases hown.2 with ⟨_,h0⟩|h
  ·omega
  ·exact h
 have hbs:Az s=some g:=by rw [hsv];rfl
 have hv:a.eval x=.pointer (some ⟨g,0+k,none⟩):=by rw [ex.der_inv hg,hsv];simp only [Dv.of,con0]
 have hrun:=Ue (cx.E.ok T i hT) w g (0+k) ty cur s2 hh (by rw [hi1,hcs2];rfl) (by omega) (fun u hu=>by
  have:u=s2:=by simpa [hcs2] using hu
  rw [this];exact hn1)
 rw [hcs2,hi1,Nat.zero_add] at hrun
 generalize hcur':(cur.toList.take k++(#[s2]:Array Value).toList++cur.toList.drop (k+1)).toArray=cur' at hrun
 have hex:(execOp a.eval o).run cx.P w=.ok .skip (w.setRow g cur'):=by
  rw [Nat.zero_add] at hv
  simp only [execOp,ho,hv,hev,Instr.storeAt,Instr.sureAddr,Sem.run_bind,Sem.run_pure,Result.andThen_ok,hrun]
 unfold Oper.wp
 rw [hex]
 have hblk:=setRow_heap w g cur cur' ty (0,0) hh
 have hothw:∀ q,q≠g->(w.setRow g cur').heap[q]? = w.heap[q]? := fun q hq=>setRow_other w g q _ hq
 have hzz:w.heap.size<=(w.setRow g cur').heap.size:=by simp
 have hdr:w.drawn<=(w.setRow g cur').drawn:=Nat.le_refl _
 have hgo:own γ g:=⟨id,_,hg,mem_arnV.2 (aC hbs)⟩
 have hbel:Below cx.w0.heap.size w (w.setRow g cur'):=⟨rfl,rfl,rfl,hzz,fun k hk=>hothw k (by have:=(hst.ge g hgo).1.1;omega)⟩
 generalize w.setRow g cur'=w' at *
 have hgt:∀ i,(vs.push s2).getD i undef=if i=vs.size then s2 else vs.getD i undef:=fun i=>by
  simp only [Array.getD_eq_getD_getElem?,Array.getElem?_push]
  by_cases h:i=vs.size
  ·rw [if_pos h,if_pos h];rfl
  ·rw [if_neg h,if_neg h]
 have hvo:∀ j b,Az (vs.getD j undef)=some b->j<vs.size:=fun j b h=>by
  rcases Nat.lt_or_ge j vs.size with h'|h'
  ·exact h'
  ·simp [Array.getD,Nat.not_lt.2 h',undef,Az] at h
 have bl:∀ i d' b,i≠id->γ i=some d'->b∈blks d'->Az s≠some b/\∀ j,Az (vs.getD j undef)≠some b:=fun i d' b hi hγi hb =>
  ⟨fun e=>hi (hst.inj _ _ _ _ _ hγi hg hb (mem_arnV.2 (aC e))),fun j hj=>hi (hst.inj _ _ _ _ _ hγi hg hb (mem_arnV.2 (aD ⟨j,hj⟩)))⟩
 have hsq:∀ b,Az s2=some b->Az s≠some b/\∀ j,Az (vs.getD j undef)≠some b:=fun b hb=>bl q _ b (Ne.symm hne) hγq ((hb2 b).2 hb)
 let γ':Gam:=fun i=>if i=id then some (arnV s (vs.push s2)) else if i=q then some none else γ i
 have g1:γ' id=some (arnV s (vs.push s2)):=if_pos rfl
 have g2:γ' q=some none:=by show (if q=id then _ else if q=q then _ else _)=_;rw [if_neg (Ne.symm hne),if_pos rfl]
 have g3:∀ i,i≠id->i≠q->γ' i=γ i:=fun i h1 h2=>by show (if i=id then _ else if i=q then _ else _)=_;rw [if_neg h1,if_neg h2]
 have hmb:∀ b,b∈blks (arnV s (vs.push s2)) ↔ b∈blks (arnV s vs)\/Az s2=some b:=fun b=>by
  rw [mem_arnV,mem_arnV]
  constructor
  ·rintro (h|⟨j,h⟩)
   ·exact aC (aC h)
   ·rw [hgt] at h
    by_cases hj:j=vs.size
    ·rw [if_pos hj] at h;exact aD h
    ·rw [if_neg hj] at h;exact aC (aD ⟨j,h⟩)
  ·rintro ((h|⟨j,h⟩)|h)
   ·exact aC h
   ·exact aD ⟨j,by rw [hgt,if_neg (by have:=hvo j b h;omega)];exact h⟩
   ·exact aD ⟨vs.size,by rw [hgt,if_pos rfl];exact h⟩
 refine hK _ _ (zn2 (γ':=γ') (q:=q) (w':=w') hst (Bm hd) hne hg g1 (zkl g1 (fun j hj=>⟨by simp;omega,by rw [hgt,if_neg (by omega)]⟩)) g3 (fun x hx=>g2) (fun b=>⟨fun ⟨i,x,hi,hb⟩=>?_,fun ⟨i,x,hi,hb⟩=>?_⟩) (fun b x hx hb=>?_) (fun i d' b h1 h2 hi hb hc=>?_) hzz (fun b hb=>hothw b (fun e=>hb (by rw [e];exact mem_arnV.2 (aC hbs)))) hbel hdr (fun hk'=>?_) (fun hk'=>⟨_,g2,rfl⟩) (.tup #[] rfl (fun j hj=>absurd hj (by simp))))
 ·by_cases h1:i=id
  ·subst h1
   rw [g1] at hi;injection hi with hi;subst hi
   rcases (hmb b).1 hb with hb|hb
   ·exact ⟨_,_,hg,hb⟩
   ·exact ⟨_,_,hγq,(hb2 b).2 hb⟩
  ·by_cases h2:i=q
   ·subst h2;rw [g2] at hi;injection hi with hi;subst hi;cases hb
   ·rw [g3 i h1 h2] at hi;exact ⟨i,x,hi,hb⟩
 ·by_cases h1:i=id
  ·subst h1
   rw [hg] at hi;injection hi with hi;subst hi
   exact ⟨_,_,g1,(hmb b).2 (aC hb)⟩
  ·by_cases h2:i=q
   ·subst h2
    rw [hγq] at hi;injection hi with hi;subst hi
    exact ⟨_,_,g1,(hmb b).2 (aD ((hb2 b).1 hb))⟩
   ·exact ⟨i,x,(g3 i h1 h2).trans hi,hb⟩
 ·rw [g2] at hx;injection hx with hx;subst hx;cases hb
 ·obtain ⟨q1,q2⟩:=bl i d' b h1 hi hb
  rcases (hmb b).1 hc with h|h
  ·rcases mem_arnV.1 h with h|⟨j,h⟩
   ·exact q1 h
   ·exact q2 j h
  ·exact h2 (hst.inj _ _ _ _ _ hi hγq hb ((hb2 b).2 h))
 ·have hus':cur'.toList.take (idx.length*1)=us.set k s2:=by
   rw [<-hcur',<-htk,set_eq_take_append_cons_drop,if_pos (by simp;omega)]
   have:=Y3 cur.toList [s2] k (idx.length*1) (by simp;omega) (by simp;omega)
   simpa using this
  refine ⟨s,vs.push s2,us.set k s2,rfl,hs1,by simp [hsz],⟨by simp [hul],aD ⟨g,cap,cur',by rw [length_set];exact hsv,hbase,hblk,by simpa using hncap,hmx,?_,by simpa using hus'⟩⟩,fun u hu=>?_,fun j hj=>?_,fun j hj=>?_,fun i j b hi hj=>?_,fun i b hb hi=>?_⟩
  ·rw [<-hcur']
   have:=Uq cur.toList [s2] k (by simp;omega)
   simpa [hcs] using this
  ·rcases mem_or_eq_of_mem_set hu with hu|hu
   ·exact hone u hu
   ·rw [hu];exact hn1
  ·have hj':j<idx.length:=by simpa using hj
   simp only [getElem_set,length_append,length_cons,length_nil]
   by_cases hjk:k=j
   ·subst hjk
    rw [if_pos rfl]
    refine ⟨fun h=>(by cases h),fun j' hj''=>?_⟩
    injection hj'' with hj''
    subst hj''
    refine ⟨by omega,?_⟩
    rw [aB,getElem?_set_self (by omega),hgt,if_pos hsz.symm]
    rfl
   ·rw [if_neg hjk]
    have e:(us.set k (s2)).getD j undef=us.getD j undef:=by rw [aB,getElem?_set_ne hjk,<-aB]
    rw [e]
    refine ⟨fun h=>((hix j hj').1 h).mono hzz hk',fun j' hj''=>?_⟩
    obtain ⟨q1,q2⟩:=(hix j hj').2 j' hj''
    exact ⟨by omega,by rw [q2,hgt,if_neg (by omega)]⟩
  ·simp only [length_append,length_cons,length_nil] at hj
   rw [hgt]
   by_cases hjk:j=vs.size
   ·rw [if_pos hjk]
    have e:(os++[NE.row ety 1 xs])[j]'(by simp;omega)=NE.row ety 1 xs:=by rw [getElem_append_right (by omega)];simp
    rw [e]
    have hnr:NRep w (Sg cx.S0 cx.w0.heap.size γ) cx.w0.heap.size s2 (.row ety 1 xs):=⟨hn1,ws,ho1,ho2,ho3,ho4⟩
    exact ⟨(by intro h;cases h),hnr.moved hzz hk' (fun b hb=>hothw b (fun e=>(hsq b hb).1 (by rw [hbs,e])))⟩
   ·have hj':j<os.length:=by omega
    rw [if_neg hjk,getElem_append_left hj']
    exact ⟨(hnn j hj').1,(hnn j hj').2.moved hzz hk' (fun b hb=>hothw b (fun e=>hdb.2 j b (by rw [hbs,e]) hb))⟩
  ·rw [hgt] at hi hj
   by_cases h1:i=vs.size
   ·by_cases h2:j=vs.size
    ·rw [h1,h2]
    ·rw [if_pos h1] at hi;rw [if_neg h2] at hj;exact absurd hj ((hsq b hi).2 j)
   ·by_cases h2:j=vs.size
    ·rw [if_neg h1] at hi;rw [if_pos h2] at hj;exact absurd hi ((hsq b hj).2 i)
    ·rw [if_neg h1] at hi;rw [if_neg h2] at hj;exact hdb.1 i j b hi hj
  ·rw [hgt] at hi
   by_cases h1:i=vs.size
   ·rw [if_pos h1] at hi;exact (hsq b hi).1 hb
   ·rw [if_neg h1] at hi;exact hdb.2 i b hb hi
end
section
variable {α β:Type}
def mkR (α:Type)(n:Nat):Ars (List α):=((range n).map some,replicate n [])
def arq (r:Nat)(x:Option β):Option β:=x
end
section
variable {E:Env} {nt:Nat} {o:Oper} {σ:AS} {K:OpK} {α β:Type}
theorem OpX.asq {m:Ars (List α)}{v:List α}{k:Nat}{c:Ars (List α)->Option β}{r:β}{T id q ty ety:Nat}{x y:Operand}{i:TyI}(ev:α->AV)(hF:Proofs.YthbogefcfhmpgaaGreat.ast m k v c=some r)(ho:o.op=.store T x y)(hd:dokN E nt o.dst=true)(hxo:A5 x=true)(hyo:A5 y=true)(hx:σ.eval x=.der (.nelt k) id)(hy:σ.eval y=.row q)(hT:lkT E.tab T=some i)(hi1:i.sz=1)
  (hl:σ.find id=some (.are ty m.1 (m.2.map (enQ ev ety)))) (hq:σ.find q=some (.row ety 1 (v.map ev))) (hne:Nat.beq id q=false) (hk:∀ m',c m'=some r->K (.tup []) [id,q] [(id,.are ty m'.1 (m'.2.map (enQ ev ety))),(q,.dead)]):OpX E nt o σ K:=by
 unfold Proofs.YthbogefcfhmpgaaGreat.ast at hF
 split at hF
 ·rename_i hlt
  have h:=hk _ hF
  refine .mk _ _ _ (fun cx hE hnt=>zl9 ho (Ak hd hE hnt) hxo hyo hx hy (by rw [hE];exact hT) hi1 hl hq hlt (nbne hne)) ?_
  simp only [length_map]
  simp only [map_append,map_cons,map_nil] at h
  exact h
 ·cases hF
end
section
variable {E:Env} {nt:Nat} {R:Exit->AS->Prop} {K:List Ba} {β α:Type}
theorem AW.arqO {id ty m:Nat}{c:Code}{σ:AS}{x:Option β}{y:β}(ev:α->AV)(ety:Nat)(h:Proofs.YthbogefcfhmpgaaGreat.arq id x=some y)(r:Nat)(hr:σ.find r=some (.row ty 1 (replicate m .nils)))(k:x=some y->AW E nt R (.code c::K) .normal (σ.rpAll r Fa (.cont m r) (.are ty (mkR α m).1 ((mkR α m).2.map (enQ ev ety))))):AW E nt R (.code c::K) .normal σ :=
 AW.weaken (LeX.arr r ety hr) (by
  have h2:=k h
  unfold mkR at h2
  simp only [map_replicate] at h2
  exact h2)
end
section
variable {α β γ:Type} {E:Env} {f:FuncId}
def lnt (m:Ars α):Bool:=m.1.all fun o=>match o with|some j=>decide (j<m.2.length)|none=>false
def alq (m:Ars α)(x:Option β):Option β:=if lnt m=true then x else none
theorem zyh {m:Ars (List α)}(ev:α->AV)(ety:Nat)(h:lnt m=true):(m.1.map (arA (m.2.map (enQ ev ety))))=(aval m).map fun q=>.sl 1 (q.map ev):=by
 unfold aval
 rw [map_map]
 refine map_congr_left (fun o ho=>?_)
 have h1:=all_eq_true.1 h o ho
 cases o with
 |none=>cases h1
 |some j =>
  have hj:j<m.2.length:=by simpa using h1
  simp only [arA,Function.comp]
  rw [aB,getElem?_map,getElem?_eq_getElem hj]
  rfl
theorem B4.oQ {m:Ars (List α)}{o:Option γ}{k:γ->Option β}{r:β}{fr:Bool}{K:AV->Prop}{raw avs avs':List AV}{find:Nat->Option Ent}{dst:Option Nat}{KR:AV->List Nat->List (Nat×Ent)->Prop}(h:alq m (bnd o k)=some r)(enc:γ->AV)(hc:∀ a,o=some a->Con E fr f avs' (enc a))(he:lnt m=true->avs'=avs)(hf:∀ a,fr=true\/(enc a).flat=true)(hk:∀ a,k a=some r->K (enc a)):B4 E f avs K raw find dst KR:=by
 unfold alq at h
 split at h
 ·rename_i q
  have he:=he q
  subst he
  exact B4.o h enc hc hf hk
 ·cases h
end
attribute [irreducible] mkR arq alq
noncomputable section
abbrev zmr (x:Cb):List AV:=[.sl 11 (x.fGuards.map B1)]
def Ix (n:Nat)(a0:A9)(e:Int×(List Bool))(c:(List Bool)->Option ((List Bool))):Nat->Int×(List Bool)->Option ((List Bool))
 |0,_=>none
 |d+1,b =>
  cnd (decide (b.1<((a0.fEdges.map Ab).length:Int)))
   (idx a0.fEdges b.1 fun f =>
   reg <| nat f.fFrom (b.2.map AV.bool).length fun g =>
   elt b.2 g fun h =>
   cnd (h)
    (cnd (decide (0<=f.fTo))
      (nat f.fTo (b.2.map AV.bool).length fun j =>
      stx b.2 j (fun l=>true) fun k =>
      (Ix n a0 e c d) ((aA .i64 (b.1+1)),k))
    <| (Ix n a0 e c d) ((aA .i64 (b.1+1)),b.2))
   <| (Ix n a0 e c d) ((aA .i64 (b.1+1)),b.2))
  <| c b.2
def L3 (n:Nat)(a0:A9)(c:(List Bool)->Option ((List Bool))):Nat->Int×(List Bool)->Option ((List Bool))
 |0,_=>none
 |e+1,b =>
  cnd (decide (b.1<((a0.fStates.map Aq).length:Int)))
   (Ix n a0 b
     (fun d=>(L3 n a0 c e) ((aA .i64 (b.1+1)),d)) n (0,b.2))
  <| c b.2
def Sq (n:Nat)(a0:A9):Option ((List Bool)) :=
 mak ((a0.fStates.map Aq).length:Int) 1 (false:Bool) fun x1 =>
 nat 0 (x1.map AV.bool).length fun x2 =>
 stx x1 x2 (fun x3=>true) fun x4 =>
 L3 n a0
  (fun b=>some b) n (0,x4)
def Vn (n:Nat)(a0:A9):Option ((List Int)×Int) :=
 bnd (E9 n a0) fun x1 =>
 cnd (!decide (x1=0))
  (some ([],x1))
 <| bnd (Sq n a0) fun x2 =>
 bnd (Sy n x2) fun x3 =>
 some (x3,0)
def P1 (n:Nat)(a0:(List Int))(c:(List Bool)->Option ((List Bool))):Nat->Int×(List Bool)->Option ((List Bool))
 |0,_=>none
 |d+1,b =>
  cnd (decide (b.1<((a0.map aI).length:Int)))
   (idx a0 b.1 fun e =>
   nat e (b.2.map AV.bool).length fun f =>
   stx b.2 f (fun h=>true) fun g =>
   (P1 n a0 c d) ((aA .i64 (b.1+1)),g))
  <| c b.2
def Pz (n:Nat)(a0:(List Int))(a1:Int):Option ((List Bool)) :=
 mak a1 1 (false:Bool) fun x1 =>
 P1 n a0
  (fun b=>some b) n (0,x1)
def Ga (n:Nat)(a0:A9)(x3:(List Bool))(x4:(List Bool))(c:(List Bool)->(List Bool)->Option ((List Bool)×(List Bool))):Nat->Int×(List Bool)->Option ((List Bool)×(List Bool))
 |0,_=>none
 |d+1,b =>
  cnd (decide (b.1<((a0.fEdges.map Ab).length:Int)))
   (idx a0.fEdges b.1 fun e =>
   reg <| idx x3 e.fFrom fun f =>
   cnd (f)
    (cnd (decide (0<=e.fTo))
      (idx x4 e.fTo fun g =>
      cnd (g)
       (nat e.fTo (b.2.map AV.bool).length fun h =>
       stx b.2 h (fun k=>true) fun j =>
       (Ga n a0 x3 x4 c d) ((aA .i64 (b.1+1)),j))
      <| (Ga n a0 x3 x4 c d) ((aA .i64 (b.1+1)),b.2))
    <| (Ga n a0 x3 x4 c d) ((aA .i64 (b.1+1)),b.2))
   <| (Ga n a0 x3 x4 c d) ((aA .i64 (b.1+1)),b.2))
  <| c x3 b.2
def Mw (n:Nat)(a0:A9):Option ((List Bool)×(List Bool)) :=
 bnd (Vn n a0) fun x1 =>
 bnd (W5 n a0) fun x2 =>
 bnd (Pz n x1.1 ((a0.fStates.map Aq).length:Int)) fun x3 =>
 bnd (Pz n x2.1 ((a0.fStates.map Aq).length:Int)) fun x4 =>
 mak ((a0.fStates.map Aq).length:Int) 1 (false:Bool) fun x5 =>
 Ga n a0 x3 x4
  (fun b c=>some (b,c)) n (0,x5)
def Q0 (n:Nat)(a1:Int)(a0:(List Int))(b:Option (Bool)):Nat->Int->Option (Bool)
 |0,_=>none
 |d+1,c =>
  cnd (decide (c<((a0.map aI).length:Int)))
   (idx a0 c fun e =>
   cnd (decide (e=a1))
    (some true)
   <| (Q0 n a1 a0 b d) (aA .i64 (c+1)))
  <| b
def Fi (n:Nat)(a0:(List Int))(a1:Int):Option (Bool) :=
 Q0 n a1 a0
  (some false) n 0
def Jc (n:Nat)(b:Bool):Option (Bool) :=
 some b
def Jd (n:Nat)(a3:(List (List Bool)))(a2:(List Bool))(a1:Int)(a0:Ai)(b:Bool):Option (Bool) :=
 cnd (b)
  (some false)
 <| jon (Jc n) <|
 reg <| idx a2 a0.fFrom fun x9 =>
 cnd (!(x9))
  (Jc n true)
 <| idx a3 a0.fFrom fun c =>
 idx c a1 fun d =>
 cnd (d)
  (bnd (Fi n a0.fOpens a1) fun e =>
  Jc n !(e))
 <| Jc n false
def Tc (n:Nat)(a0:Ai)(a1:Int)(a2:(List Bool))(a3:(List (List Bool))):Option (Bool) :=
 bnd (Fi n a0.fCloses a1) fun x1 =>
 cnd (x1)
  (some false)
 <| jon (Jd n a3 a2 a1 a0) <|
 reg <| cnd (decide (a0.fFrom=0))
  (bnd (Fi n a0.fOpens a1) fun b =>
  Jd n a3 a2 a1 a0 !(b))
 <| Jd n a3 a2 a1 a0 false
def H6 (n:Nat)(a2:(List Bool))(a1:(List Bool))(a0:A9)(c:Nat)(g:Bool×Int×(Ars (List Bool)))(d:Ai)(e:Bool->(Ars (List Bool))->Option ((List (List Bool)))):Nat->Bool×Int×(Ars (List Bool))->Option ((List (List Bool)))
 |0,_=>none
 |f+1,b =>
  cnd (decide (b.2.1<a0.fScopes))
   (reg <| ncx d.fTo c <|
   aob b.2.2 (Int.toNat d.fTo) fun h =>
   aix b.2.2 h b.2.1 fun k =>
   ald b.2.2 h k fun l =>
   cnd (l)
    (alq b.2.2 <| bnd (Tc n d b.2.1 a2 (aval b.2.2)) fun o =>
    cnd (!(o))
     (ncx d.fTo c <|
     aob b.2.2 (Int.toNat d.fTo) fun j =>
     aix b.2.2 j b.2.1 fun p =>
     asr b.2.2 j p false fun q =>
     (H6 n a2 a1 a0 c g d e f) (true,(aA .i64 (b.2.1+1)),q))
    <| (H6 n a2 a1 a0 c g d e f) (b.1,(aA .i64 (b.2.1+1)),b.2.2))
   <| (H6 n a2 a1 a0 c g d e f) (b.1,(aA .i64 (b.2.1+1)),b.2.2))
  <| e b.1 b.2.2
def Fz (n:Nat)(a2:(List Bool))(a1:(List Bool))(a0:A9)(c:Nat)(b:Bool×Int×(Ars (List Bool)))(f:(Bool×Int×(Ars (List Bool)))->Option ((List (List Bool))))(g:Ai)(h:Bool):Option ((List (List Bool))) :=
 cnd (h)
  (f (b.1,(aA .i64 (b.2.1+1)),b.2.2))
 <| H6 n a2 a1 a0 c b g
  (fun d e=>f (d,(aA .i64 (b.2.1+1)),e)) n (b.1,0,b.2.2)
def Em (n:Nat)(a2:(List Bool))(a1:(List Bool))(a0:A9)(b:Nat)(c:Bool->(Ars (List Bool))->Option ((List (List Bool)))):Nat->Bool×Int×(Ars (List Bool))->Option ((List (List Bool)))
 |0,_=>none
 |f+1,d =>
  cnd (decide (d.2.1<((a0.fEdges.map Ab).length:Int)))
   (idx a0.fEdges d.2.1 fun e =>
   jon (Fz n a2 a1 a0 b d (Em n a2 a1 a0 b c f) e) <|
   reg <| idx a1 e.fFrom fun g =>
   cnd (!(g))
    (Fz n a2 a1 a0 b d (Em n a2 a1 a0 b c f) e true)
   <| cnd (decide (e.fTo<0))
    (Fz n a2 a1 a0 b d (Em n a2 a1 a0 b c f) e true)
   <| idx a2 e.fTo fun h =>
   Fz n a2 a1 a0 b d (Em n a2 a1 a0 b c f) e !(h))
  <| c d.1 d.2.2
def Iw (n:Nat)(a2:(List Bool))(a1:(List Bool))(a0:A9)(b:Nat)(c:(Ars (List Bool))->Option ((List (List Bool)))):Nat->Bool×(Ars (List Bool))->Option ((List (List Bool)))
 |0,_=>none
 |g+1,d =>
  cnd (d.1)
   (Em n a2 a1 a0 b
     (fun e f=>(Iw n a2 a1 a0 b c g) (e,f)) n (false,0,d.2))
  <| c d.2
def Oq (n:Nat)(a2:(List Bool))(a1:(List Bool))(a0:A9)(c:Nat×Int×(Ars (List Bool)))(d:(Ars (List Bool))->Option ((List (List Bool)))):Nat->Int×(Ars (List Bool))->Option ((List (List Bool)))
 |0,_=>none
 |f+1,b =>
  cnd (decide (b.1<a0.fScopes))
   (ncx c.2.1 c.1 <|
   aob b.2 (Int.toNat c.2.1) fun e =>
   idx a2 c.2.1 fun g =>
   aix b.2 e b.1 fun h =>
   asr b.2 e h g fun j =>
   (Oq n a2 a1 a0 c d f) ((aA .i64 (b.1+1)),j))
  <| d b.2
def L0 (n:Nat)(a2:(List Bool))(a1:(List Bool))(a0:A9)(c:Nat->(Ars (List Bool))->Option ((List (List Bool)))):Nat->Nat×Int×(Ars (List Bool))->Option ((List (List Bool)))
 |0,_=>none
 |e+1,b =>
  cnd (decide (b.2.1<((b.1:Nat):Int)))
   (mak a0.fScopes 1 (false:Bool) fun f =>
   ncx b.2.1 b.1 <|
   ast b.2.2 (Int.toNat b.2.1) f fun g =>
   Oq n a2 a1 a0 b
    (fun d=>(L0 n a2 a1 a0 c e) (b.1,(aA .i64 (b.2.1+1)),d)) n (0,g))
  <| c b.1 b.2.2
def Sn (n:Nat)(a0:A9)(a1:(List Bool))(a2:(List Bool)):Option ((List (List Bool))) :=
 mkn ((a0.fStates.map Aq).length:Int) 24 fun x1 =>
 arq 17 <| reg <| L0 n a2 a1 a0
  (fun c d=>Iw n a2 a1 a0 c
  (fun b=>frq 17 b <| reg <| some (aval b)) n (true,d)) n (x1,0,(mkR Bool x1))
def Pr (n:Nat)(a1:Int)(a0:Ai)(c:Option (Int)):Nat->Int->Option (Int)
 |0,_=>none
 |d+1,b =>
  cnd (decide (b<((a0.fLimits.map Bn).length:Int)))
   (idx a0.fLimits b fun e =>
   cnd (decide (e.fScope=a1))
    (idx a0.fLimits b fun f =>
    some f.fSpan)
   <| (Pr n a1 a0 c d) (aA .i64 (b+1)))
  <| c
def Tb (n:Nat)(a0:Ai)(a1:Int):Option (Int) :=
 bnd (Fi n a0.fOpens a1) fun x1 =>
 cnd (x1)
  (some (-1))
 <| Pr n a1 a0
  (some (-1)) n 0
def Md (n:Nat)(a2:(List Bool))(a0:A9)(d:(List Ai)×Int×Int)(b:Int×Int)(e:Int->Option (Int))(c:(Int×Int)->Option (Int))(g:Bool):Option (Int) :=
 cnd (g)
  (idx d.1 b.2 fun h =>
  bnd (Tb n h d.2.2) fun f =>
  reg <| cnd (decide (f<0))
   (c ((-1),(aA .i64 (b.2+1))))
  <| c ((max b.1 f),(aA .i64 (b.2+1))))
 <| e b.1
def Jn (n:Nat)(a2:(List Bool))(a0:A9)(c:(List Ai)×Int×Int)(b:Int->Option (Int)):Nat->Int×Int->Option (Int)
 |0,_=>none
 |e+1,d =>
  jon (Md n a2 a0 c d b (Jn n a2 a0 c b e)) <|
  reg <| cnd (decide (d.2<((c.1.map Ab).length:Int)))
   (Md n a2 a0 c d b (Jn n a2 a0 c b e) (decide (0<=d.1)))
  <| Md n a2 a0 c d b (Jn n a2 a0 c b e) false
def Ds (n:Nat)(a2:(List Bool))(a0:A9)(c:Int->Option (Int)):Nat->(List Ai)×Int×Int->Option (Int)
 |0,_=>none
 |e+1,b =>
  cnd (decide (b.2.2<a0.fScopes))
   (idx a2 b.2.2 fun f =>
   cnd (!(f))
    ((Ds n a2 a0 c e) (b.1,b.2.1,(aA .i64 (b.2.2+1))))
   <| Jn n a2 a0 b
    (fun d=>reg <| cnd (decide (0<=d))
    (cnd (decide (b.2.1<0))
      ((Ds n a2 a0 c e) (b.1,d,(aA .i64 (b.2.2+1))))
    <| cnd (decide (d<b.2.1))
     ((Ds n a2 a0 c e) (b.1,d,(aA .i64 (b.2.2+1))))
    <| (Ds n a2 a0 c e) (b.1,b.2.1,(aA .i64 (b.2.2+1))))
   <| (Ds n a2 a0 c e) (b.1,b.2.1,(aA .i64 (b.2.2+1)))) n (0,0))
  <| c b.2.1
def Th (n:Nat)(a0:A9)(a1:Int)(a2:(List Bool)):Option (Int) :=
 bnd (Tf n a0 a1) fun x1 =>
 Ds n a2 a0
  (fun b=>some b) n (x1,(-1),0)
def Lz (n:Nat)(a0:A9)(x2:(List Bool)×(List Bool))(x3:(List (List Bool)))(c:(List Int)->(List Bool)->Option ((List Int)×(List Bool)×Int)):Nat->Int×(List Int)×(List Bool)->Option ((List Int)×(List Bool)×Int)
 |0,_=>none
 |d+1,b =>
  cnd (decide (b.1<((a0.fStates.map Aq).length:Int)))
   (nat b.1 (b.2.2.map AV.bool).length fun g =>
   stx b.2.2 g (fun q=>true) fun e =>
   reg <| idx x2.2 b.1 fun h =>
   cnd (h)
    (idx x3 b.1 fun j =>
    bnd (Th n a0 b.1 j) fun f =>
    nat b.1 (e.map AV.bool).length fun k =>
    stx e k (fun s=>decide (0<=f)) fun l =>
    nat b.1 (b.2.1.map aI).length fun o =>
    stx b.2.1 o (fun t=>(max (0:Int) f)) fun p =>
    (Lz n a0 x2 x3 c d) ((aA .i64 (b.1+1)),p,l))
   <| (Lz n a0 x2 x3 c d) ((aA .i64 (b.1+1)),b.2.1,e))
  <| c b.2.1 b.2.2
def Td (n:Nat)(a0:A9):Option ((List Int)×(List Bool)×Int) :=
 bnd (E9 n a0) fun x1 =>
 cnd (!decide (x1=0))
  (some ([],[],x1))
 <| bnd (Mw n a0) fun x2 =>
 bnd (Sn n a0 x2.1 x2.2) fun x3 =>
 mak ((a0.fStates.map Aq).length:Int) 8 (0:Int) fun x4 =>
 mak ((a0.fStates.map Aq).length:Int) 1 (false:Bool) fun x5 =>
 Lz n a0 x2 x3
  (fun b c=>some (b,c,0)) n (0,x4,x5)
attribute [irreducible] Jc Jd Fz Md 
end
noncomputable section
def Vv (n:Nat)(a1:(List A6))(a0:(List A6))(c:Option (Bool)):Nat->Int->Option (Bool)
 |0,_=>none
 |f+1,b =>
  cnd (decide (b<((a0.map Ac).length:Int)))
   (idx a0 b fun d =>
   idx a1 b fun e =>
   cnd (!(decide (d.fKind=e.fKind) && (decide (d.fNum=e.fNum) && ((d.fText.toList == e.fText.toList) && true))))
    (some false)
   <| (Vv n a1 a0 c f) (aA .i64 (b+1)))
  <| c
def Zj (n:Nat)(a0:(List A6))(a1:(List A6)):Option (Bool) :=
 cnd (!decide (((a0.map Ac).length:Int)=((a1.map Ac).length:Int)))
  (some false)
 <| Vv n a1 a0
  (some true) n 0
def Zh (n:Nat)(a0:Aw)(a1:Aw):Option (Bool) :=
 bnd (N4 n a0) fun x1 =>
 bnd (N4 n a1) fun x2 =>
 cnd ((decide (x1.fTime=x2.fTime) && (decide (x1.fSource=x2.fSource) && (decide (x1.fSeq=x2.fSeq) && true))))
  (cnd (decide (a0.fType=a1.fType))
    (bnd (Zj n a0.fValues a1.fValues) fun x3 =>
    some x3)
  <| some false)
 <| some false
def M8 (n:Nat)(a1:(List Aw))(a0:(List Aw))(c:Option (Bool)):Nat->Int->Option (Bool)
 |0,_=>none
 |d+1,b =>
  cnd (decide (b<((a0.map Aj).length:Int)))
   (idx a0 b fun e =>
   idx a1 b fun f =>
   bnd (Zh n e f) fun g =>
   cnd (!(g))
    (some false)
   <| (M8 n a1 a0 c d) (aA .i64 (b+1)))
  <| c
def Wp (n:Nat)(a0:(List Aw))(a1:(List Aw)):Option (Bool) :=
 cnd (!decide (((a0.map Aj).length:Int)=((a1.map Aj).length:Int)))
  (some false)
 <| M8 n a1 a0
  (some true) n 0
def Hf (n:Nat)(b:Bool):Option (Bool) :=
 some b
def Qk (n:Nat)(a0:C3)(a1:C3):Option (Bool) :=
 jon (Hf n) <|
 reg <| cnd (decide (a0.fVerdict=a1.fVerdict))
  (cnd (decide (a0.fBound=a1.fBound))
    (cnd (decide (a0.fPeriod=a1.fPeriod))
      (bnd (Wp n a0.fPrefix a1.fPrefix) fun x3 =>
      Hf n x3)
    <| Hf n false)
  <| Hf n false)
 <| Hf n false
def Lk (n:Nat)(a1:Int)(x1:(List Int)×(List Bool)×Int)(x2:(List Bool)×(List Bool))(c:Int->Option (Int×Bool)):Nat->Int×Int->Option (Int×Bool)
 |0,_=>none
 |d+1,b =>
  cnd (decide (b.2<((x1.1.map aI).length:Int)))
   (idx x1.2.1 b.2 fun e =>
   cnd (!(e))
    (some (0,false))
   <| reg <| idx x2.2 b.2 fun f =>
   cnd (f)
    (idx x1.1 b.2 fun g =>
    (Lk n a1 x1 x2 c d) ((max b.1 (aA .i64 (a1*(aA .i64 (g+1))))),(aA .i64 (b.2+1))))
   <| (Lk n a1 x1 x2 c d) (b.1,(aA .i64 (b.2+1))))
  <| c b.1
def Q9 (n:Nat)(a0:A9)(a1:Int):Option (Int×Bool) :=
 bnd (Td n a0) fun x1 =>
 bnd (Mw n a0) fun x2 =>
 Lk n a1 x1 x2
  (fun b=>some (b,true)) n (0,0)
def Dp (n:Nat)(b:Ap->(List Bool)->Option ((List Bool)))(a0:Ap)(d:(List Bool)->Option ((List Bool))):Nat->Int×(List Bool)->Option ((List Bool))
 |0,_=>none
 |e+1,c =>
  cnd (decide (c.1<((a0.fArgs.map idA).length:Int)))
   (idxD Bp a0.fArgs c.1 fun f =>
   bndM 43 (b f c.2) fun g =>
   (Dp n b a0 d e) ((aA .i64 (c.1+1)),g))
  <| d c.2
def P6 (n:Nat)(b:Ap->(List Bool)->Option ((List Bool)))(a0:Ap)(d:(List Bool)->Option ((List Bool))):Nat->Int×(List Bool)->Option ((List Bool))
 |0,_=>none
 |e+1,c =>
  cnd (decide (c.1<((a0.fArgs.map idA).length:Int)))
   (idxD Bp a0.fArgs c.1 fun f =>
   bndM 43 (b f c.2) fun g =>
   (P6 n b a0 d e) ((aA .i64 (c.1+1)),g))
  <| d c.2
def P5 (n:Nat)(b:Ap->(List Bool)->Option ((List Bool)))(a0:Ap)(d:(List Bool)->Option ((List Bool))):Nat->Int×(List Bool)->Option ((List Bool))
 |0,_=>none
 |e+1,c =>
  cnd (decide (c.1<((a0.fArgs.map idA).length:Int)))
   (idxD Bp a0.fArgs c.1 fun f =>
   bndM 43 (b f c.2) fun g =>
   (P5 n b a0 d e) ((aA .i64 (c.1+1)),g))
  <| d c.2
def P4 (n:Nat)(b:Ap->(List Bool)->Option ((List Bool)))(a0:Ap)(d:(List Bool)->Option ((List Bool))):Nat->Int×(List Bool)->Option ((List Bool))
 |0,_=>none
 |e+1,c =>
  cnd (decide (c.1<((a0.fArgs.map idA).length:Int)))
   (idxD Bp a0.fArgs c.1 fun f =>
   bndM 43 (b f c.2) fun g =>
   (P4 n b a0 d e) ((aA .i64 (c.1+1)),g))
  <| d c.2
def E8:Nat->Ap->(List Bool)->Option ((List Bool))
 |0,_,_=>none
 |n+1,a0,m0 =>
 bnd (Qm n a0.fOp) fun x1 =>
 cnd (x1.1)
  (cnd (decide (0<=a0.fVar))
    (cnd (decide (a0.fVar<((m0.map AV.bool).length:Int)))
      (nat a0.fVar (m0.map AV.bool).length fun x2 =>
      stx m0 x2 (fun x3=>true) fun x4 =>
      Dp n (E8 n) a0
       (fun b=>some b) n (0,x4))
    <| P6 n (E8 n) a0
     (fun c=>some c) n (0,m0))
  <| P5 n (E8 n) a0
   (fun d=>some d) n (0,m0))
 <| P4 n (E8 n) a0
  (fun e=>some e) n (0,m0)
def Ir (n:Nat)(x2:(List Bool))(c:(List Int)->Option ((List Int))):Nat->Int×(List Int)->Option ((List Int))
 |0,_=>none
 |d+1,b =>
  cnd (decide (b.1<((x2.map AV.bool).length:Int)))
   (reg <| nat b.1 (x2.map AV.bool).length fun e =>
   elt x2 e fun f =>
   cnd (f)
    (app b.2 [b.1] 8 fun g =>
    (Ir n x2 c d) ((aA .i64 (b.1+1)),g))
   <| (Ir n x2 c d) ((aA .i64 (b.1+1)),b.2))
  <| c b.2
def Si (n:Nat)(a0:Ap):Option ((List Int)) :=
 mak 16 1 (false:Bool) fun x1 =>
 bndM 9 (E8 n a0 x1) fun x2 =>
 Ir n x2
  (fun b=>some b) n (0,[])
def Ky (n:Nat)(b:Bool):Option (Bool) :=
 some b
def Pe (n:Nat)(a0:Ap):Option (Bool) :=
 jon (Ky n) <|
 reg <| bnd (Si n a0) fun x4 =>
 cnd (decide (((x4.map aI).length:Int)=0))
  (bnd (Hq n a0 (⟨[]⟩:B5) (-1) (⟨0,0,0,0,[]⟩:Aw)) fun x5 =>
  Ky n x5)
 <| Ky n false
def Ly (n:Nat)(a2:Ai)(e:Cb)(c:Int)(b:Int->Option (Bool))(d:Bool):Option (Bool) :=
 cnd (d)
  (some false)
 <| b (aA .i64 (c+1))
def Je (n:Nat)(a2:Ai)(b:Cb)(c:Option (Bool)):Nat->Int->Option (Bool)
 |0,_=>none
 |e+1,d =>
  cnd (decide (d<((b.fGuards.map B1).length:Int)))
   (jon (Ly n a2 b d (Je n a2 b c e)) <|
   reg <| idx b.fGuards d fun f =>
   cnd (decide (f.fType=a2.fType))
    (idx b.fGuards d fun g =>
    bnd (Fi n a2.fInside g.fScope) fun h =>
    Ly n a2 b d (Je n a2 b c e) !(h))
   <| Ly n a2 b d (Je n a2 b c e) false)
  <| c
def Pu (n:Nat)(a2:Ai)(a1:A9)(b:Option (Bool)):Nat->Int->Option (Bool)
 |0,_=>none
 |d+1,c =>
  cnd (decide (c<((a2.fLimits.map Bn).length:Int)))
   (idx a2.fLimits c fun e =>
   bnd (Fi n a2.fOpens e.fScope) fun f =>
   cnd (!(f))
    (some false)
   <| (Pu n a2 a1 b d) (aA .i64 (c+1)))
  <| b
def Pv (n:Nat)(a2:Ai)(a1:A9)(b:Option (Bool)):Nat->Int->Option (Bool)
 |0,_=>none
 |d+1,c =>
  cnd (decide (c<((a2.fChecks.map idA).length:Int)))
   (idxD Bp a2.fChecks c fun e =>
   bnd (Pe n e) fun f =>
   cnd (!(f))
    (some false)
   <| (Pv n a2 a1 b d) (aA .i64 (c+1)))
  <| b
def Jf (n:Nat)(a2:Ai)(a1:A9)(b:Bool):Option (Bool) :=
 cnd (b)
  (some false)
 <| Pv n a2 a1
  (Pu n a2 a1
  (idx a1.fStates a2.fFrom fun c =>
 Je n a2 c
  (some true) n 0) n 0) n 0
def K0 (n:Nat)(a0:(List Ah))(a1:A9)(a2:Ai):Option (Bool) :=
 jon (Jf n a2 a1) <|
 reg <| cnd (decide (((a0.map Al).length:Int)<=a2.fType))
  (Jf n a2 a1 true)
 <| bnd (Pe n a2.fCond) fun b =>
 Jf n a2 a1 !(b)
def G3 (n:Nat)(b:(List Ah)->A9->Int->(List Bool)->(List Int)->Option ((List (List Int))))(a4:(List Int))(a3:(List Bool))(a2:Int)(a1:A9)(a0:(List Ah))(c:Int×(List (List Int)))(d:(Int×(List (List Int)))->Option ((List (List Int))))(e:Ai)(j:Bool):Option ((List (List Int))) :=
 cnd (j)
  (d ((aA .i64 (c.1+1)),c.2))
 <| app [] a4 8 fun k =>
 app k [e.fType] 8 fun f =>
 frz 50 <| reg <| app c.2 [f] 24 fun g =>
 reg <| idx a3 e.fTo fun l =>
 cnd (!(l))
  (app [] a3 1 fun h =>
  nat e.fTo (h.map AV.bool).length fun o =>
  stx h o (fun t=>true) fun p =>
  frz 63 <| reg <| bnd (b a0 a1 e.fTo p f) fun q =>
  app g q 24 fun s =>
  d ((aA .i64 (c.1+1)),s))
 <| d ((aA .i64 (c.1+1)),g)
def G2 (n:Nat)(b:(List Ah)->A9->Int->(List Bool)->(List Int)->Option ((List (List Int))))(a4:(List Int))(a3:(List Bool))(a2:Int)(a1:A9)(a0:(List Ah))(c:(List (List Int))->Option ((List (List Int)))):Nat->Int×(List (List Int))->Option ((List (List Int)))
 |0,_=>none
 |e+1,d =>
  cnd (decide (d.1<((a1.fEdges.map Ab).length:Int)))
   (idx a1.fEdges d.1 fun f =>
   jon (G3 n b a4 a3 a2 a1 a0 d (G2 n b a4 a3 a2 a1 a0 c e) f) <|
   reg <| cnd (!decide (f.fFrom=a2))
    (G3 n b a4 a3 a2 a1 a0 d (G2 n b a4 a3 a2 a1 a0 c e) f true)
   <| cnd (decide (f.fTo<0))
    (G3 n b a4 a3 a2 a1 a0 d (G2 n b a4 a3 a2 a1 a0 c e) f true)
   <| bnd (K0 n a0 a1 f) fun g =>
   G3 n b a4 a3 a2 a1 a0 d (G2 n b a4 a3 a2 a1 a0 c e) f !(g))
  <| c d.2
def Ju:Nat->(List Ah)->A9->Int->(List Bool)->(List Int)->Option ((List (List Int)))
 |0,_,_,_,_,_=>none
 |n+1,a0,a1,a2,a3,a4 =>
 G2 n (Ju n) a4 a3 a2 a1 a0
  (fun b=>some b) n (0,[])
def Oo (n:Nat)(a1:(List Int))(a0:Cb)(b:Option (Bool)):Nat->Int->Option (Bool)
 |0,_=>none
 |d+1,c =>
  cnd (decide (c<((a0.fGuards.map B1).length:Int)))
   (idx a0.fGuards c fun e =>
   bnd (Fi n a1 e.fType) fun f =>
   cnd (f)
    (some true)
   <| (Oo n a1 a0 b d) (aA .i64 (c+1)))
  <| b
def Sm (n:Nat)(a0:Cb)(a1:(List Int)):Option (Bool) :=
 Oo n a1 a0
  (some false) n 0
def Hg (n:Nat)(a1:A9)(a0:(List Ah))(e:Int×(List Bool))(c:(List Bool)->Option ((List Bool))):Nat->Int×(List Bool)->Option ((List Bool))
 |0,_=>none
 |d+1,b =>
  cnd (decide (b.1<((a1.fEdges.map Ab).length:Int)))
   (idx a1.fEdges b.1 fun f =>
   reg <| bnd (K0 n a0 a1 f) fun g =>
   cnd (g)
    (cnd (decide (f.fTo<0))
      (nat f.fFrom (b.2.map AV.bool).length fun h =>
      stx b.2 h (fun q=>true) fun j =>
      (Hg n a1 a0 e c d) ((aA .i64 (b.1+1)),j))
    <| nat f.fTo (b.2.map AV.bool).length fun k =>
    elt b.2 k fun l =>
    cnd (l)
     (nat f.fFrom (b.2.map AV.bool).length fun o =>
     stx b.2 o (fun s=>true) fun p =>
     (Hg n a1 a0 e c d) ((aA .i64 (b.1+1)),p))
    <| (Hg n a1 a0 e c d) ((aA .i64 (b.1+1)),b.2))
   <| (Hg n a1 a0 e c d) ((aA .i64 (b.1+1)),b.2))
  <| c b.2
def Lx (n:Nat)(a1:A9)(a0:(List Ah))(c:(List Bool)->Option ((List Bool))):Nat->Int×(List Bool)->Option ((List Bool))
 |0,_=>none
 |e+1,b =>
  cnd (decide (b.1<((a1.fStates.map Aq).length:Int)))
   (Hg n a1 a0 b
     (fun d=>(Lx n a1 a0 c e) ((aA .i64 (b.1+1)),d)) n (0,b.2))
  <| c b.2
def Ql (n:Nat)(a0:(List Ah))(a1:A9):Option ((List Bool)) :=
 mak ((a1.fStates.map Aq).length:Int) 1 (false:Bool) fun x1 =>
 Lx n a1 a0
  (fun b=>some b) n (0,x1)
def J4 (n:Nat)(a2:(List Int))(a1:A9)(e:(List Bool))(f:(List Bool))(c:Int)(b:Int->Option (Bool))(d:Bool):Option (Bool) :=
 cnd (d)
  (some true)
 <| b (aA .i64 (c+1))
def Fe (n:Nat)(a2:(List Int))(a1:A9)(b:(List Bool))(e:(List Bool))(c:Option (Bool)):Nat->Int->Option (Bool)
 |0,_=>none
 |f+1,d =>
  cnd (decide (d<((b.map AV.bool).length:Int)))
   (jon (J4 n a2 a1 b e d (Fe n a2 a1 b e c f)) <|
   reg <| nat d (b.map AV.bool).length fun h =>
   elt b h fun j =>
   cnd (j)
    (idx e d fun k =>
    cnd (k)
     (idx a1.fStates d fun l =>
     bnd (Sm n l a2) fun g =>
     J4 n a2 a1 b e d (Fe n a2 a1 b e c f) !(g))
    <| J4 n a2 a1 b e d (Fe n a2 a1 b e c f) false)
   <| J4 n a2 a1 b e d (Fe n a2 a1 b e c f) false)
  <| c
def Fd (n:Nat)(a2:(List Int))(a1:A9)(a0:(List Ah))(d:Int×(List Bool))(c:(List Bool)->Option (Bool)):Nat->Int×(List Bool)->Option (Bool)
 |0,_=>none
 |e+1,b =>
  cnd (decide (b.1<((a1.fEdges.map Ab).length:Int)))
   (idx a1.fEdges b.1 fun f =>
   reg <| nat f.fFrom (d.2.map AV.bool).length fun g =>
   elt d.2 g fun h =>
   cnd (h)
    (cnd (decide (0<=f.fTo))
      (idx a2 d.1 fun j =>
      cnd (decide (f.fType=j))
       (bnd (K0 n a0 a1 f) fun k =>
       cnd (k)
        (nat f.fTo (b.2.map AV.bool).length fun l =>
        stx b.2 l (fun p=>true) fun o =>
        (Fd n a2 a1 a0 d c e) ((aA .i64 (b.1+1)),o))
       <| (Fd n a2 a1 a0 d c e) ((aA .i64 (b.1+1)),b.2))
      <| (Fd n a2 a1 a0 d c e) ((aA .i64 (b.1+1)),b.2))
    <| (Fd n a2 a1 a0 d c e) ((aA .i64 (b.1+1)),b.2))
   <| (Fd n a2 a1 a0 d c e) ((aA .i64 (b.1+1)),b.2))
  <| c b.2
def Ll (n:Nat)(a2:(List Int))(a1:A9)(a0:(List Ah))(c:(List Bool)->Option (Bool)):Nat->Int×(List Bool)->Option (Bool)
 |0,_=>none
 |e+1,b =>
  cnd (decide (b.1<((a2.map aI).length:Int)))
   (mak ((a1.fStates.map Aq).length:Int) 1 (false:Bool) fun f =>
   Fd n a2 a1 a0 b
    (fun d=>(Ll n a2 a1 a0 c e) ((aA .i64 (b.1+1)),d)) n (0,f))
  <| c b.2
def J5 (n:Nat)(a2:(List Int))(a1:A9)(a0:(List Ah))(c:Bool):Option (Bool) :=
 cnd (c)
  (some false)
 <| mak ((a1.fStates.map Aq).length:Int) 1 (false:Bool) fun x4 =>
 nat 0 (x4.map AV.bool).length fun x5 =>
 stx x4 x5 (fun x6=>true) fun x7 =>
 Ll n a2 a1 a0
  (fun b=>bnd (Ql n a0 a1) fun d =>
 Fe n a2 a1 b d
  (some false) n 0) n (0,x7)
def Mo (n:Nat)(a0:(List Ah))(a1:A9)(a2:(List Int)):Option (Bool) :=
 jon (J5 n a2 a1 a0) <|
 reg <| cnd (decide (((a2.map aI).length:Int)=0))
  (J5 n a2 a1 a0 true)
 <| idx a1.fStates 0 fun b =>
 bnd (Sm n b a2) fun c =>
 J5 n a2 a1 a0 c
def Ot (n:Nat)(a1:A9)(a0:(List Ah))(x6:(List (List Int)))(b:Option (Int×Int)):Nat->Int->Option (Int×Int)
 |0,_=>none
 |d+1,c =>
  cnd (decide (c<(((List.map (fun q=>AV.sl 1 (List.map aI q)) (x6)).length:Nat):Int)))
   (idx x6 c fun e =>
   bnd (Mo n a0 a1 e) fun f =>
   cnd (f)
    (some (2,0))
   <| (Ot n a1 a0 x6 b d) (aA .i64 (c+1)))
  <| b
def So (n:Nat)(a0:(List Ah))(a1:A9)(a2:Int):Option (Int×Int) :=
 bnd (Q9 n a1 a2) fun x1 =>
 cnd (x1.2)
  (some (1,x1.1))
 <| mak ((a1.fStates.map Aq).length:Int) 1 (false:Bool) fun x2 =>
 nat 0 (x2.map AV.bool).length fun x3 =>
 stx x2 x3 (fun x4=>true) fun x5 =>
 frz 24 <| reg <| bnd (Ju n a0 a1 0 x5 []) fun x6 =>
 Ot n a1 a0 x6
  (some (0,0)) n 0
def Pk (n:Nat)(a1:Aw)(x4:Ah)(c:Option (Int)):Nat->Int->Option (Int)
 |0,_=>none
 |d+1,b =>
  cnd (decide (b<((x4.fFields.map C7).length:Int)))
   (idx a1.fValues b fun f =>
   bnd (Ec n f) fun e =>
   cnd (!decide (e=0))
    (some e)
   <| idx a1.fValues b fun g =>
   idx x4.fFields b fun h =>
   cnd (!decide (g.fKind=h.fKind))
    (some 9)
   <| (Pk n a1 x4 c d) (aA .i64 (b+1)))
  <| c
def J8 (n:Nat)(a1:Aw)(a0:(List Ah))(b:Bool):Option (Int) :=
 cnd (b)
  (some 6)
 <| idx a0 a1.fType fun x4 =>
 cnd (!decide (((a1.fValues.map Ac).length:Int)=((x4.fFields.map C7).length:Int)))
  (some 15)
 <| Pk n a1 x4
  (some 0) n 0
def G8 (n:Nat)(a1:Aw)(a0:(List Ah))(b:Bool):Option (Int) :=
 cnd (b)
  (some 2)
 <| jon (J8 n a1 a0) <|
 reg <| cnd (decide (a1.fType<0))
  (J8 n a1 a0 true)
 <| J8 n a1 a0 (decide (((a0.map Al).length:Int)<=a1.fType))
def J9 (n:Nat)(a1:Aw)(a0:(List Ah))(b:Bool):Option (Int) :=
 cnd (b)
  (some 32)
 <| jon (G8 n a1 a0) <|
 reg <| cnd (decide (a1.fSeq<0))
  (G8 n a1 a0 true)
 <| cnd (decide (1099511627776<a1.fSeq))
  (G8 n a1 a0 true)
 <| cnd (decide (a1.fTime<0))
  (G8 n a1 a0 true)
 <| G8 n a1 a0 (decide (1099511627776<a1.fTime))
def We (n:Nat)(a0:(List Ah))(a1:Aw):Option (Int) :=
 jon (J9 n a1 a0) <|
 reg <| cnd (decide (a1.fSource<0))
  (J9 n a1 a0 true)
 <| J9 n a1 a0 (decide (8<=a1.fSource))
def Qe (n:Nat)(a0:(List Ah))(a1:Aw):Option (Int) :=
 bnd (Pn n a0) fun x1 =>
 cnd (!decide (x1=0))
  (some x1)
 <| bnd (We n a0 a1) fun x2 =>
 some x2
def Ps (n:Nat)(a1:Int)(a0:(List Aw))(c:Option (Bool)):Nat->Int->Option (Bool)
 |0,_=>none
 |d+1,b =>
  cnd (decide (b<((a0.map Aj).length:Int)))
   (idx a0 b fun e =>
   idx a0 (aA .i64 (b-a1)) fun f =>
   cnd (decide (e.fTime=f.fTime))
    (some true)
   <| (Ps n a1 a0 c d) (aA .i64 (b+1)))
  <| c
def Qj (n:Nat)(a0:(List Aw))(a1:Int):Option (Bool) :=
 Ps n a1 a0
  (some false) n a1
def L7 (n:Nat)(b:Bool):Option (Bool) :=
 some b
def L8 (n:Nat)(a0:C3)(b:Int):Option (Bool) :=
 jon (L7 n) <|
 reg <| cnd (decide (b<a0.fPeriod))
  (L7 n (decide (a0.fPeriod<=1099511627776)))
 <| L7 n false
def Py (n:Nat)(a0:C3):Option (Bool) :=
 jon (L8 n a0) <|
 reg <| cnd (decide (0<((a0.fPrefix.map Aj).length:Int)))
  (idx a0.fPrefix (aA .i64 (((a0.fPrefix.map Aj).length:Int)-1)) fun x5 =>
  idx a0.fPrefix 0 fun x6 =>
  L8 n a0 (aA .i64 (x5.fTime-x6.fTime)))
 <| L8 n a0 0
def P0 (n:Nat)(a3:C3)(a2:Int)(a1:A9)(a0:(List Ah))(c:(List Int)->Option (Int)):Nat->Int×(List Int)->Option (Int)
 |0,_=>none
 |d+1,b =>
  cnd (decide (b.1<((a3.fPrefix.map Aj).length:Int)))
   (idx a3.fPrefix b.1 fun f =>
   bnd (Qe n a0 f) fun e =>
   cnd (!decide (e=0))
    (some e)
   <| idx a3.fPrefix b.1 fun g =>
   app b.2 [g.fType] 8 fun h =>
   (P0 n a3 a2 a1 a0 c d) ((aA .i64 (b.1+1)),h))
  <| c b.2
def W4 (n:Nat)(a0:(List Ah))(a1:A9)(a2:Int)(a3:C3):Option (Int) :=
 bnd (Mr n a3.fPrefix) fun x1 =>
 cnd (!decide (x1=0))
  (some x1)
 <| P0 n a3 a2 a1 a0
  (fun b=>bnd (Qj n a3.fPrefix a2) fun c =>
 cnd (c)
  (some 5)
 <| bnd (Py n a3) fun d =>
 cnd (!(d))
  (some 2)
 <| bnd (Mo n a0 a1 b) fun e =>
 cnd (!(e))
  (some 18)
 <| some 0) n (0,[])
def L9 (n:Nat)(b:Bool):Option (Int) :=
 cnd (b)
  (some 18)
 <| some 0
def La (n:Nat)(a3:C3)(a2:Int)(a1:A9)(b:Bool):Option (Int) :=
 cnd (b)
  (some 3)
 <| bnd (Q9 n a1 a2) fun x5 =>
 jon (L9 n) <|
 reg <| cnd (!(x5.2))
  (L9 n true)
 <| L9 n (decide (a3.fBound<x5.1))
def J0 (n:Nat)(a3:C3)(a2:Int)(a1:A9)(a0:(List Ah))(b:Bool):Option (Int) :=
 cnd (b)
  (some 1)
 <| cnd (decide (a3.fVerdict=2))
  (cnd (!decide (a3.fBound=0))
    (some 3)
  <| bnd (W4 n a0 a1 a2 a3) fun x3 =>
  some x3)
 <| jon (La n a3 a2 a1) <|
 reg <| cnd (decide (0<((a3.fPrefix.map Aj).length:Int)))
  (La n a3 a2 a1 true)
 <| La n a3 a2 a1 (!decide (a3.fPeriod=0))
def Me (n:Nat)(a0:(List Ah))(a1:A9)(a2:Int)(a3:C3):Option (Int) :=
 bnd (Qa n a0 a1 a2) fun x1 =>
 cnd (!decide (x1=0))
  (some x1)
 <| jon (J0 n a3 a2 a1 a0) <|
 reg <| cnd (!decide (a3.fVerdict=1))
  (J0 n a3 a2 a1 a0 (!decide (a3.fVerdict=2)))
 <| J0 n a3 a2 a1 a0 false
def Ip (n:Nat)(b:Bool):Option (Bool) :=
 some b
def Kx (n:Nat)(b:Bool):Option (Bool) :=
 some b
def Io (n:Nat)(b:Bool):Option (Bool) :=
 some b
def Fy (n:Nat)(a0:Ht)(x3:C3×Int)(c:Int×Int)(b:Bool):Option (Bool) :=
 cnd (b)
  (some false)
 <| cnd (decide (c.1=0))
  (jon (Kx n) <|
  reg <| bnd (Qk n x3.1 (⟨0,0,[],0⟩:C3)) fun d =>
  cnd (d)
   (bnd (Jv n) fun e =>
   Kx n e)
  <| Kx n false)
 <| jon (Io n) <|
 reg <| bnd (Me n a0.fTypes a0.fA a0.fRate x3.1) fun f =>
 cnd (decide (f=0))
  (bnd (Jv n) fun g =>
  Io n g)
 <| Io n false
def Vf (n:Nat)(a0:Ht):Option (Bool) :=
 bnd (Vo n a0) fun x1 =>
 cnd (!(x1))
  (bnd (Jv n) fun x2 =>
  some x2)
 <| bnd (Eg n a0.fTypes a0.fA a0.fRate) fun x3 =>
 bnd (Qa n a0.fTypes a0.fA a0.fRate) fun x4 =>
 cnd (!decide (x4=0))
  (jon (Ip n) <|
  reg <| cnd (decide (x3.2=x4))
   (bnd (Qk n x3.1 (⟨0,0,[],0⟩:C3)) fun x8 =>
   cnd (x8)
    (bnd (Jv n) fun x9 =>
    Ip n x9)
   <| Ip n false)
  <| Ip n false)
 <| bnd (So n a0.fTypes a0.fA a0.fRate) fun b =>
 jon (Fy n a0 x3 b) <|
 reg <| cnd (!decide (x3.2=0))
  (Fy n a0 x3 b true)
 <| cnd (!decide (x3.1.fVerdict=b.1))
  (Fy n a0 x3 b true)
 <| Fy n a0 x3 b (!decide (x3.1.fBound=b.2))
attribute [irreducible] Hf Ky Ly Jf G3 J4 J5 J8 G8 J9 L7 L8 L9 La J0 Ip Kx Io Fy
end
noncomputable section
abbrev z3i {n b a1 a0 c d e}:=jf (J7 n b a1 a0 c d e) (fun f=>⟨[(1,aI a1),(2,.ptr 2 0),(5,aI c.1),(6,aI c.2),(16,.bool (f))],[(2,.box 146 (C9 a0))]⟩) fun _=>J7.eq_1 ..
abbrev z3h {n b a1 a0 c}:=li (Ep n b a1 a0 c) (fun d=>⟨[(1,aI a1),(2,.ptr 2 0),(5,aI d.1),(6,aI d.2)],[(2,.box 146 (C9 a0))]⟩) fun _ _=>Ep.eq_2 ..
abbrev z3g {n b a0 c}:=li (G7 n b a0 c) (fun d=>⟨[(1,.ptr 1 0),(3,aI d.1),(4,aI d.2)],[(1,.box 146 (C9 a0))]⟩) fun _ _=>G7.eq_2 ..
abbrev z3b {n}:=jt (Eo n) (fun b=>⟨[(12,.bool (b))],[]⟩) fun _=>Eo.eq_1 ..
abbrev z3c {n a0}:=jt (G6 n a0) (fun b=>⟨[(3,aI a0),(4,.bool (b))],[]⟩) fun _=>G6.eq_1 ..
abbrev z4w {n b}:=jf (Jg n b) (fun c=>⟨[(2,.bool (c)),(3,.bool (b))],[]⟩) fun _=>Jg.eq_1 ..
abbrev z4x {n a0}:=jf (M5 n a0) (fun b=>⟨[(0,aI a0),(4,.bool (b))],[]⟩) fun _=>M5.eq_1 ..
abbrev z3j {n}:=jf (H9 n) (fun b=>⟨[(4,.bool (b))],[]⟩) fun _=>H9.eq_1 ..
abbrev z4z {n}:=jf (Bx n) (fun b=>⟨[(130,.bool (b))],[]⟩) fun _=>Bx.eq_1 ..
abbrev z50 {n a0 x2 b}:=jf (Hh n a0 x2 b) (fun c=>⟨[(1,.ptr 1 0),(4,.bool (x2.1)),(5,.bool (x2.2)),(6,.bool (decide (a0.fOp=4))),(7,.bool (b)),(95,.bool (c))],[(1,.box 146 (C9 a0))]⟩) fun _=>Hh.eq_1 ..
abbrev z51 {n a0 x2 b}:=jt (M6 n a0 x2 b) (fun _=>⟨[(1,.ptr 1 0),(4,.bool (x2.1)),(5,.bool (x2.2)),(6,.bool (decide (a0.fOp=4))),(7,.bool (b))],[(1,.box 146 (C9 a0))]⟩) fun _=>M6.eq_1 ..
abbrev z52 {n a0 x2}:=jf (M7 n a0 x2) (fun b=>⟨[(1,.ptr 1 0),(4,.bool (x2.1)),(5,.bool (x2.2)),(6,.bool (decide (a0.fOp=4))),(7,.bool (b))],[(1,.box 146 (C9 a0))]⟩) fun _=>M7.eq_1 ..
abbrev z53 {n a0 x2}:=jf (Jh n a0 x2) (fun b=>⟨[(1,.ptr 1 0),(4,.bool (x2.1)),(5,.bool (x2.2)),(6,.bool (decide (a0.fOp=4))),(62,.bool (b))],[(1,.box 146 (C9 a0))]⟩) fun _=>Jh.eq_1 ..
abbrev z54 {n a0 x2}:=jf (E7 n a0 x2) (fun b=>⟨[(1,.ptr 1 0),(4,.bool (x2.1)),(5,.bool (x2.2)),(48,.bool (b))],[(1,.box 146 (C9 a0))]⟩) fun _=>E7.eq_1 ..
abbrev z3a {n b a0 c}:=li (G5 n b a0 c) (fun d=>⟨[(1,.ptr 1 0),(4,aI d)],[(1,.box 146 (C9 a0))]⟩) fun _ _=>G5.eq_2 ..
attribute [instance] z3i z3h z3g z3b z3c z4w z4x z3j z4z z50 z51 z52 z53 z54 z3a
def z7g (r:Int):AV:=aI (r)
theorem z2q {n a0 a1 r}(hF:Du n a0 a1=some r):Con E0 true 148 [Ao a0,aI a1] (aI r):=by
 induction n generalizing a0 a1 r
 case zero=>cases hF
 case succ n ih =>
 unfold Du at hF
 refine cw Tryz.func148 ?_
 repeat' first
  |refine AW.jI hF (fun v hF=>?_) fun hF=>?_
  |refine AW.regO hF fun hF=>?_
  |refine AW.stepU [3] ?_;conv=>whnf
  |refine A4.o hF (fun hF=>?_) fun hF=>?_
  |refine IdxX.oD hF Da (fun x hF=>?_)
  |refine Af.o hF z7g (fun a h=>ih h) (fun a hF=>?_)
  |exact ⟨_,hF,LeX.a []⟩
  |refine Av.I hF (LeX.a []) fun m v hF=>?_
  |exact RetX.oB hF
instance zg4 {n a0 a1}:CI E0 (Du n a0 a1) true 148 [Ao a0,aI a1] aI:=⟨z2q⟩
def z7f (r:Int):AV:=aI (r)
theorem z2p {n a0 r}(hF:Dt n a0=some r):Con E0 true 149 [Ao a0] (aI r):=by
 induction n generalizing a0 r
 case zero=>cases hF
 case succ n ih =>
 unfold Dt at hF
 refine cw Tryz.func149 ?_
 repeat' first
  |refine AW.step ?_;conv=>whnf
  |refine A4.o hF (fun hF=>?_) fun hF=>?_
  |refine IdxX.oD hF Da (fun x hF=>?_)
  |refine Af.o hF z7f (fun a h=>ih h) (fun a hF=>?_)
  |exact ⟨_,hF,LeX.a []⟩
  |refine Av.I hF (LeX.a []) fun m v hF=>?_
  |exact RetX.oB hF
instance zg3 {n a0}:CI E0 (Dt n a0) true 149 [Ao a0] aI:=⟨z2p⟩
instance zg0 {n a0}:CI E0 (T5 n a0) true 305 [aI a0] aI:=by unfold T5;exact CI.w [2,3,4,5,10,11,12,13,14,15] Tryz.func305
instance zh9 {n a0}:CI E0 (Qm n a0) true 306 [aI a0] (fun r=>.tup [.bool (r.1),.bool (r.2)]):=by unfold Qm;exact CI.w [1,2] Tryz.func306
instance zgg {n a0}:CI E0 (Ec n a0) true 269 [Ac a0] aI:=by unfold Ec;exact CI.w [] Tryz.func269
instance zg7 {n a0 a1}:CI E0 (Mq n a0 a1) true 307 [aI a0,Ac a1] (fun r=>.bool (r)):=by unfold Mq;exact CI.w [1] Tryz.func307
instance zhb {n a0}:CI E0 (Mx n a0) true 262 [Ao a0] aI:=⟨fun {r} hF=>by
 unfold Mx at hF
 refine cw Tryz.func262 ?_
 repeat' first
  |refine AW.jI hF (fun v hF=>?_) fun hF=>?_
  |refine AW.jI2 hF (fun v hF=>?_) fun hF=>?_
  |refine AW.regO hF fun hF=>?_
  |refine AW.stepU [7,10,12,13,17,19] ?_;conv=>whnf
  |refine A4.o hF (fun hF=>?_) fun hF=>?_
  |refine A4.t ?_
  |refine A4.f ?_
  |refine Af.I hF fun a hF=>?_
  |exact ⟨_,hF,LeX.a []⟩
  |exact ⟨(),hF,LeX.a []⟩
  |refine EqX.A ?_
  |exact RetX.oB hF⟩
def z7e (r:Int):AV:=aI (r)
theorem z2o {n a0 r}(hF:Ea n a0=some r):Con E0 true 208 [Ao a0] (aI r):=by
 induction n generalizing a0 r
 case zero=>cases hF
 case succ n ih =>
 unfold Ea at hF
 refine cw Tryz.func208 ?_
 repeat' first
  |refine AW.step ?_;conv=>whnf
  |refine A4.o hF (fun hF=>?_) fun hF=>?_
  |refine Af.I hF fun a hF=>?_
  |refine IdxX.oD hF Da (fun x hF=>?_)
  |refine Af.o hF z7e (fun a h=>ih h) (fun a hF=>?_)
  |exact ⟨_,hF,LeX.a []⟩
  |refine Av.I hF (LeX.a []) fun m v hF=>?_
  |exact RetX.oB hF
instance zfz {n a0}:CI E0 (Ea n a0) true 208 [Ao a0] aI:=⟨z2o⟩
end
end Go.Proofs.YthbogefcfhmpgaaGreat
