/- What some functions compute, over plain values. -/
import Derived.Test.YthbogefcfhmpgaaGreatK15
set_option linter.unusedVariables false
set_option linter.unusedSimpArgs false
set_option maxRecDepth 100000
set_option maxHeartbeats 8000000
namespace Go.Proofs.YthbogefcfhmpgaaGreat
open Go.RowKit List
open IntKind renaming wrap->aA
open LeX renaming a->aB
open List renaming getD_eq_getElem?_getD->aC
open RetX renaming oB->aD
open CI renaming w->aE
open AW renaming stepU->aF,regO->aG,step->aL,jI->aQ
open IdxX renaming oD->aH,A->aS
open Or renaming inl->aJ,inr->aK
open A3 renaming o->aN
noncomputable section
structure zdb where
 fTypes:(List Br)
 fA:A8
 fRate:Int
deriving Inhabited
def Rp (n:Nat)(a0:(List Br))(c:Int)(b:Int->Option (Bool))(d:Bool):Option (Bool) :=
 cnd (d)
  (some false)
 <| b (aA .i64 (c+1))
def Vc (n:Nat)(a0:(List Br))(b:Option (Bool)):Nat->Int->Option (Bool)
 |0,_=>none
 |d+1,c =>
  cnd (decide (c<((a0.map Ay).length:Int)))
   (jon (Rp n a0 c (Vc n a0 b d)) <|
   reg <| idx a0 c fun e =>
   cnd (decide (20<((e.fFields.map Dh).length:Int)))
    (Rp n a0 c (Vc n a0 b d) true)
   <| idx a0 c fun f =>
   Rp n a0 c (Vc n a0 b d) (decide (100<((f.fName.size:Nat):Int))))
  <| b
def Fq (n:Nat):Option (Ak) :=
 bnd (D4 n true) fun x1 =>
 some (⟨0,[],0,0,0,x1⟩)
def Vo (n:Nat)(a0:Ak):Option (A8) :=
 mak 2 24 (⟨[]⟩:Dw) fun x1 =>
 bnd (Fq n) fun x2 =>
 bld ([⟨0,1,0,0,x2,[],[],[],[],[]⟩,⟨1,(-1),1,0,a0,[],[],[],[],[]⟩]:List Ab) fun x3 =>
 some (⟨2,1,x1,x3⟩)
def Rg (n:Nat):Option (A8) :=
 bnd (Fq n) fun x1 =>
 bndM 3 (Vo n x1) fun x2 =>
 nat 0 (x2.fEdges.map A7).length fun x3 =>
 ltx x3 (x2.fEdges.map A7).length <| stx x2.fEdges x3 (fun x4=>⟨x4.fFrom,x4.fTo,x4.fVar,x4.fType,x4.fCond,[0],x4.fCloses,x4.fChecks,x4.fLimits,x4.fInside⟩) fun x5 =>
 nat 0 (x5.map A7).length fun x6 =>
 ltx x6 (x5.map A7).length <| stx x5 x6 (fun x7=>⟨x7.fFrom,x7.fTo,x7.fVar,x7.fType,x7.fCond,x7.fOpens,x7.fCloses,x7.fChecks,[⟨0,5⟩],x7.fInside⟩) fun x8 =>
 nat 1 (x8.map A7).length fun x9 =>
 ltx x9 (x8.map A7).length <| stx x8 x9 (fun b=>⟨b.fFrom,b.fTo,b.fVar,b.fType,b.fCond,b.fOpens,[0],b.fChecks,b.fLimits,b.fInside⟩) fun d =>
 nat 1 (d.map A7).length fun e =>
 ltx e (d.map A7).length <| stx d e (fun c=>⟨c.fFrom,c.fTo,c.fVar,c.fType,c.fCond,c.fOpens,c.fCloses,c.fChecks,[⟨0,5⟩],c.fInside⟩) fun f =>
 some (⟨x2.fVars,x2.fScopes,x2.fStates,f⟩)
def Kx (n:Nat)(a0:Ak):Option (A8) :=
 mak 2 24 (⟨[]⟩:Dw) fun x1 =>
 bnd (Fq n) fun x2 =>
 some (⟨2,1,x1,[⟨0,1,0,0,x2,[],[],[],[],[]⟩,⟨1,(-1),1,0,a0,[],[],[],[],[]⟩]⟩)
def Ls (n:Nat)(a1:(List Int))(a0:(List Int))(c:Option (Bool)):Nat->Int->Option (Bool)
 |0,_=>none
 |d+1,b =>
  cnd (decide (b<((a0.map aI).length:Int)))
   (idx a0 b fun e =>
   idx a1 b fun f =>
   cnd (!decide (e=f))
    (some false)
   <| (Ls n a1 a0 c d) (aA .i64 (b+1)))
  <| c
def M8 (n:Nat)(a0:(List Int))(a1:(List Int)):Option (Bool) :=
 cnd (!decide (((a0.map aI).length:Int)=((a1.map aI).length:Int)))
  (some false)
 <| Ls n a1 a0
  (some true) n 0
def Lr (n:Nat)(a1:(List Bool))(a0:(List Bool))(c:Option (Bool)):Nat->Int->Option (Bool)
 |0,_=>none
 |d+1,b =>
  cnd (decide (b<((a0.map AV.bool).length:Int)))
   (idx a0 b fun e =>
   idx a1 b fun f =>
   cnd (!(e == f))
    (some false)
   <| (Lr n a1 a0 c d) (aA .i64 (b+1)))
  <| c
def M7 (n:Nat)(a0:(List Bool))(a1:(List Bool)):Option (Bool) :=
 cnd (!decide (((a0.map AV.bool).length:Int)=((a1.map AV.bool).length:Int)))
  (some false)
 <| Lr n a1 a0
  (some true) n 0
def Ig (n:Nat)(b:Bool):Option (Bool) :=
 cnd (b)
  (some false)
 <| bnd (Fq n) fun c =>
 bnd (Kx n c) fun d =>
 bnd (Ss n ([⟨(ByteArray.mk #[65]),[⟨(ByteArray.mk #[120]),0⟩]⟩]) d 1 (⟨2,0,[⟨0,0,0,0,[⟨0,0,ByteArray.empty⟩]⟩],1⟩:Du)) fun e =>
 some (decide (e=0))
def Cy (n:Nat)(x2:(List Int)×(List Bool)×Int)(x7:Du×Int)(b:Bool):Option (Bool) :=
 cnd (b)
  (some false)
 <| jon (Ig n) <|
 reg <| bnd (M8 n x2.1 ([0,5])) fun c =>
 cnd (!(c))
  (Ig n true)
 <| bnd (M7 n x2.2.1 ([true,true])) fun d =>
 cnd (!(d))
  (Ig n true)
 <| bnd (Fq n) fun e =>
 bnd (Kx n e) fun f =>
 bnd (Ss n ([⟨(ByteArray.mk #[65]),[⟨(ByteArray.mk #[120]),0⟩]⟩]) f 1 x7.1) fun g =>
 Ig n (!decide (g=0))
def J3 (n:Nat):Option (Bool) :=
 bnd (Rg n) fun x1 =>
 bnd (F6 n x1) fun x2 =>
 bnd (Rg n) fun x3 =>
 bnd (My n ([⟨(ByteArray.mk #[65]),[⟨(ByteArray.mk #[120]),0⟩]⟩]) x3 2) fun x4 =>
 bnd (Fq n) fun x5 =>
 bnd (Kx n x5) fun x6 =>
 bnd (My n ([⟨(ByteArray.mk #[65]),[⟨(ByteArray.mk #[120]),0⟩]⟩]) x6 1) fun x7 =>
 bnd (Kx n (⟨7,[(Ah ⟨1,[],1,0,0,⟨0,0,ByteArray.empty⟩⟩),(Ah ⟨1,[],0,0,0,⟨0,0,ByteArray.empty⟩⟩)],0,0,0,⟨0,0,ByteArray.empty⟩⟩:Ak)) fun x8 =>
 bnd (My n ([⟨(ByteArray.mk #[65]),[⟨(ByteArray.mk #[120]),0⟩]⟩]) x8 1) fun x9 =>
 mak 1 24 (⟨[]⟩:Dw) fun c =>
 bnd (Fq n) fun d =>
 frz 53 <| reg <| bnd (My n ([⟨(ByteArray.mk #[65]),[⟨(ByteArray.mk #[120]),0⟩]⟩]) (⟨1,0,c,[⟨0,(-1),0,0,d,[],[],[],[],[]⟩]⟩:A8) 1) fun b =>
 jon (Cy n x2 x7) <|
 reg <| cnd (!decide (x2.2.2=0))
  (Cy n x2 x7 true)
 <| cnd (!decide (x4.2=0))
  (Cy n x2 x7 true)
 <| cnd (!decide (x7.2=0))
  (Cy n x2 x7 true)
 <| cnd (!decide (x9.2=0))
  (Cy n x2 x7 true)
 <| cnd (!decide (b.2=0))
  (Cy n x2 x7 true)
 <| cnd (!decide (x4.1.fVerdict=1))
  (Cy n x2 x7 true)
 <| cnd (!decide (x4.1.fBound=12))
  (Cy n x2 x7 true)
 <| cnd (!decide (x7.1.fVerdict=2))
  (Cy n x2 x7 true)
 <| cnd (!decide (x9.1.fVerdict=0))
  (Cy n x2 x7 true)
 <| cnd (!decide (b.1.fVerdict=1))
  (Cy n x2 x7 true)
 <| Cy n x2 x7 (!decide (b.1.fBound=0))
attribute [irreducible] Rp  Ig Cy     
end
noncomputable section
def Gp (n:Nat)(a0:A8)(e:Int×(List Bool))(c:(List Bool)->Option ((List Bool))):Nat->Int×(List Bool)->Option ((List Bool))
 |0,_=>none
 |d+1,b =>
  cnd (decide (b.1<((a0.fEdges.map A7).length:Int)))
   (idx a0.fEdges b.1 fun f =>
   reg <| cnd (decide (f.fTo<0))
    (nat f.fFrom (b.2.map AV.bool).length fun g =>
    stx b.2 g (fun p=>true) fun h =>
    (Gp n a0 e c d) ((aA .i64 (b.1+1)),h))
   <| nat f.fTo (b.2.map AV.bool).length fun j =>
   elt b.2 j fun k =>
   cnd (k)
    (nat f.fFrom (b.2.map AV.bool).length fun l =>
    stx b.2 l (fun q=>true) fun o =>
    (Gp n a0 e c d) ((aA .i64 (b.1+1)),o))
   <| (Gp n a0 e c d) ((aA .i64 (b.1+1)),b.2))
  <| c b.2
def I2 (n:Nat)(a0:A8)(c:(List Bool)->Option ((List Bool))):Nat->Int×(List Bool)->Option ((List Bool))
 |0,_=>none
 |e+1,b =>
  cnd (decide (b.1<((a0.fStates.map Aj).length:Int)))
   (Gp n a0 b
     (fun d=>(I2 n a0 c e) ((aA .i64 (b.1+1)),d)) n (0,b.2))
  <| c b.2
def Od (n:Nat)(a0:A8):Option ((List Bool)) :=
 mak ((a0.fStates.map Aj).length:Int) 1 (false:Bool) fun x1 =>
 I2 n a0
  (fun b=>some b) n (0,x1)
def I6 (n:Nat)(a0:(List Bool))(c:(List Int)->Option ((List Int))):Nat->Int×(List Int)->Option ((List Int))
 |0,_=>none
 |d+1,b =>
  cnd (decide (b.1<((a0.map AV.bool).length:Int)))
   (reg <| idx a0 b.1 fun e =>
   cnd (e)
    (app b.2 [b.1] 8 fun f =>
    (I6 n a0 c d) ((aA .i64 (b.1+1)),f))
   <| (I6 n a0 c d) ((aA .i64 (b.1+1)),b.2))
  <| c b.2
def Oj (n:Nat)(a0:(List Bool)):Option ((List Int)) :=
 I6 n a0
  (fun b=>some b) n (0,[])
def Rn (n:Nat)(a0:A8):Option ((List Int)×Int) :=
 bnd (Es n a0) fun x1 =>
 cnd (!decide (x1=0))
  (some ([],x1))
 <| bnd (Od n a0) fun x2 =>
 bnd (Oj n x2) fun x3 =>
 some (x3,0)
end
noncomputable section
end
section
variable {cx:Cx} {o:Oper} {σ:AS}
theorem zdf {T id q k ty ety:Nat}{x y:Operand}{i:TyI}{idx:List (Option Nat)}{os:List NE}{xs:List AV}(ho:o.op=.store T x y)(hd:dok cx o=true)(hxo:A0 x=true)(hyo:A0 y=true)(hx:σ.eval x=.der (.nelt k) id)(hy:σ.eval y=.row q)(hT:lkT cx.E.tab T=some i)(hi1:i.sz=1)(hl:σ.find id=some (.are ty idx os))(hq:σ.find q=some (.row ety 1 xs))(hk:k<idx.length)(hne:id≠q) :
  A9 cx o σ (.tup []) [id,q] [(id,.are ty (idx.set k (some os.length)) (os++[.row ety 1 xs])),(q,.dead)]:=by
 refine ⟨fun i e he=>zis he,fun τ h1 h2 a w Q K ⟨γ,hst⟩ hK=>Bn (fun c hc=>by rw [ho] at hc;cases hc) ?_⟩
 have ex:=hst.ev x hxo
 rw [h1 x (by simp [ho,Op.operands]),hx] at ex
 have ey:=hst.ev y hyo
 rw [h1 y (by simp [ho,Op.operands]),hy] at ey
 obtain ⟨s,vs,us,hg,hs1,hsz,hown,hone,hix,hnn,hdb⟩:=Ka hst (by rw [h2 id (by simp)];exact hl)
 obtain ⟨s2,ws,hγq,hn1,ho1,ho2,ho3,ho4⟩:=Ql (id:=q) hst (by rw [h2 q (by simp)];exact hq)
 obtain ⟨ob1,ob2⟩:=Nd ho1
 have hev:a.eval y=s2:=ey.row_inv hγq (Jx hn1)
 have hcs2:s2.cells=#[s2]:=by rcases ho1.2 with ⟨h,_⟩|⟨_,_,_,h,_⟩<;>rw [h]<;>rfl
 have hb2:∀ b,b∈blks (some (s2.ownBlock,s2)) ↔ Au s2=some b:=fun b=>Qk ob1 ob2
 have hul:us.length=idx.length*1:=hown.1
 obtain ⟨g,cap,cur,hsv,hbase,hh,hncap,hmx,hcs,htk⟩:∃ g cap cur,s=.slice (some ⟨g,0,none⟩) idx.length cap/\cx.w0.heap.size<=g/\w.heap[g]? = some (.cells cur ty (0,0))/\idx.length<=cap/\cap<=maxLen/\cur.size=cap*1/\cur.toList.take (idx.length*1)=us:=by
  rcases hown.2 with ⟨_,h0⟩|h
  ·omega
  ·exact h
 have hbs:Au s=some g:=by rw [hsv];rfl
 have hv:a.eval x=.pointer (some ⟨g,0+k,none⟩):=by rw [ex.der_inv hg,hsv];simp only [Dv.of,con0]
 have hrun:=Pz (cx.E.ok T i hT) w g (0+k) ty cur s2 hh (by rw [hi1,hcs2];rfl) (by omega) (fun u hu=>by
  have:u=s2:=by simpa [hcs2] using hu
  rw [this];exact hn1)
 rw [hcs2,hi1,Nat.zero_add] at hrun
 generalize hcur':(cur.toList.take k++(#[s2]:Array Value).toList++cur.toList.drop (k+1)).toArray=cur' at hrun
 have hex:(execOp a.eval o).run cx.P w=.ok .skip (w.setRow g cur'):=by
  rw [Nat.zero_add] at hv
  simp only [execOp,ho,hv,hev,Instr.storeAt,Instr.sureAddr,Sem.run_bind,Sem.run_pure,Result.andThen_ok,hrun]
 unfold Oper.wp
 rw [hex]
 have hblk:=setRow_heap w g cur cur' ty (0,0) hh
 have hothw:∀ q,q≠g->(w.setRow g cur').heap[q]? = w.heap[q]? := fun q hq=>setRow_other w g q _ hq
 have hzz:w.heap.size<=(w.setRow g cur').heap.size:=by simp
 have hdr:w.drawn<=(w.setRow g cur').drawn:=Nat.le_refl _
 have hgo:own γ g:=⟨id,_,hg,mem_arnV.2 (aJ hbs)⟩
 have hbel:Below cx.w0.heap.size w (w.setRow g cur'):=⟨rfl,rfl,rfl,hzz,fun k hk=>hothw k (by have:=(hst.ge g hgo).1.1;omega)⟩
 generalize w.setRow g cur'=w' at *
 have hgt:∀ i,(vs.push s2).getD i undef=if i=vs.size then s2 else vs.getD i undef:=fun i=>by
  simp only [Array.getD_eq_getD_getElem?,Array.getElem?_push]
  by_cases h:i=vs.size
  ·rw [if_pos h,if_pos h];rfl
  ·rw [if_neg h,if_neg h]
 have hvo:∀ j b,Au (vs.getD j undef)=some b->j<vs.size:=fun j b h=>by
  rcases Nat.lt_or_ge j vs.size with h'|h'
  ·exact h'
  ·simp [Array.getD,Nat.not_lt.2 h',undef,Au] at h
 have bl:∀ i d' b,i≠id->γ i=some d'->b∈blks d'->Au s≠some b/\∀ j,Au (vs.getD j undef)≠some b:=fun i d' b hi hγi hb =>
  ⟨fun e=>hi (hst.inj _ _ _ _ _ hγi hg hb (mem_arnV.2 (aJ e))),fun j hj=>hi (hst.inj _ _ _ _ _ hγi hg hb (mem_arnV.2 (aK ⟨j,hj⟩)))⟩
 have hsq:∀ b,Au s2=some b->Au s≠some b/\∀ j,Au (vs.getD j undef)≠some b:=fun b hb=>bl q _ b (Ne.symm hne) hγq ((hb2 b).2 hb)
 let γ':Gam:=fun i=>if i=id then some (arnV s (vs.push s2)) else if i=q then some none else γ i
 have g1:γ' id=some (arnV s (vs.push s2)):=if_pos rfl
 have g2:γ' q=some none:=by show (if q=id then _ else if q=q then _ else _)=_;rw [if_neg (Ne.symm hne),if_pos rfl]
 have g3:∀ i,i≠id->i≠q->γ' i=γ i:=fun i h1 h2=>by show (if i=id then _ else if i=q then _ else _)=_;rw [if_neg h1,if_neg h2]
 have hmb:∀ b,b∈blks (arnV s (vs.push s2)) ↔ b∈blks (arnV s vs)\/Au s2=some b:=fun b=>by
  rw [mem_arnV,mem_arnV]
  constructor
  ·rintro (h|⟨j,h⟩)
   ·exact aJ (aJ h)
   ·rw [hgt] at h
    by_cases hj:j=vs.size
    ·rw [if_pos hj] at h;exact aK h
    ·rw [if_neg hj] at h;exact aJ (aK ⟨j,h⟩)
  ·rintro ((h|⟨j,h⟩)|h)
   ·exact aJ h
   ·exact aK ⟨j,by rw [hgt,if_neg (by have:=hvo j b h;omega)];exact h⟩
   ·exact aK ⟨vs.size,by rw [hgt,if_pos rfl];exact h⟩
 refine hK _ _ (zep (γ':=γ') (q:=q) (w':=w') hst (Bh hd) hne hg g1 (zcs g1 (fun j hj=>⟨by simp;omega,by rw [hgt,if_neg (by omega)]⟩)) g3 (fun x hx=>g2) (fun b=>⟨fun ⟨i,x,hi,hb⟩=>?_,fun ⟨i,x,hi,hb⟩=>?_⟩) (fun b x hx hb=>?_) (fun i d' b h1 h2 hi hb hc=>?_) hzz (fun b hb=>hothw b (fun e=>hb (by rw [e];exact mem_arnV.2 (aJ hbs)))) hbel hdr (fun hk'=>?_) (fun hk'=>⟨_,g2,rfl⟩) (.tup #[] rfl (fun j hj=>absurd hj (by simp))))
 ·by_cases h1:i=id
  ·subst h1
   rw [g1] at hi;injection hi with hi;subst hi
   rcases (hmb b).1 hb with hb|hb
   ·exact ⟨_,_,hg,hb⟩
   ·exact ⟨_,_,hγq,(hb2 b).2 hb⟩
  ·by_cases h2:i=q
   ·subst h2;rw [g2] at hi;injection hi with hi;subst hi;cases hb
   ·rw [g3 i h1 h2] at hi;exact ⟨i,x,hi,hb⟩
 ·by_cases h1:i=id
  ·subst h1
   rw [hg] at hi;injection hi with hi;subst hi
   exact ⟨_,_,g1,(hmb b).2 (aJ hb)⟩
  ·by_cases h2:i=q
   ·subst h2
    rw [hγq] at hi;injection hi with hi;subst hi
    exact ⟨_,_,g1,(hmb b).2 (aK ((hb2 b).1 hb))⟩
   ·exact ⟨i,x,(g3 i h1 h2).trans hi,hb⟩
 ·rw [g2] at hx;injection hx with hx;subst hx;cases hb
 ·obtain ⟨q1,q2⟩:=bl i d' b h1 hi hb
  rcases (hmb b).1 hc with h|h
  ·rcases mem_arnV.1 h with h|⟨j,h⟩
   ·exact q1 h
   ·exact q2 j h
  ·exact h2 (hst.inj _ _ _ _ _ hi hγq hb ((hb2 b).2 h))
 ·have hus':cur'.toList.take (idx.length*1)=us.set k s2:=by
   rw [<-hcur',<-htk,set_eq_take_append_cons_drop,if_pos (by simp;omega)]
   have:=U1 cur.toList [s2] k (idx.length*1) (by simp;omega) (by simp;omega)
   simpa using this
  refine ⟨s,vs.push s2,us.set k s2,rfl,hs1,by simp [hsz],⟨by simp [hul],aK ⟨g,cap,cur',by rw [length_set];exact hsv,hbase,hblk,by simpa using hncap,hmx,?_,by simpa using hus'⟩⟩,fun u hu=>?_,fun j hj=>?_,fun j hj=>?_,fun i j b hi hj=>?_,fun i b hb hi=>?_⟩
  ·rw [<-hcur']
   have:=Qa cur.toList [s2] k (by simp;omega)
   simpa [hcs] using this
  ·rcases mem_or_eq_of_mem_set hu with hu|hu
   ·exact hone u hu
   ·rw [hu];exact hn1
  ·have hj':j<idx.length:=by simpa using hj
   simp only [getElem_set,length_append,length_cons,length_nil]
   by_cases hjk:k=j
   ·subst hjk
    rw [if_pos rfl]
    refine ⟨fun h=>(by cases h),fun j' hj''=>?_⟩
    injection hj'' with hj''
    subst hj''
    refine ⟨by omega,?_⟩
    rw [aC,getElem?_set_self (by omega),hgt,if_pos hsz.symm]
    rfl
   ·rw [if_neg hjk]
    have e:(us.set k (s2)).getD j undef=us.getD j undef:=by rw [aC,getElem?_set_ne hjk,<-aC]
    rw [e]
    refine ⟨fun h=>((hix j hj').1 h).mono hzz hk',fun j' hj''=>?_⟩
    obtain ⟨q1,q2⟩:=(hix j hj').2 j' hj''
    exact ⟨by omega,by rw [q2,hgt,if_neg (by omega)]⟩
  ·simp only [length_append,length_cons,length_nil] at hj
   rw [hgt]
   by_cases hjk:j=vs.size
   ·rw [if_pos hjk]
    have e:(os++[NE.row ety 1 xs])[j]'(by simp;omega)=NE.row ety 1 xs:=by rw [getElem_append_right (by omega)];simp
    rw [e]
    have hnr:NRep w (Sg cx.S0 cx.w0.heap.size γ) cx.w0.heap.size s2 (.row ety 1 xs):=⟨hn1,ws,ho1,ho2,ho3,ho4⟩
    exact ⟨(by intro h;cases h),hnr.moved hzz hk' (fun b hb=>hothw b (fun e=>(hsq b hb).1 (by rw [hbs,e])))⟩
   ·have hj':j<os.length:=by omega
    rw [if_neg hjk,getElem_append_left hj']
    exact ⟨(hnn j hj').1,(hnn j hj').2.moved hzz hk' (fun b hb=>hothw b (fun e=>hdb.2 j b (by rw [hbs,e]) hb))⟩
  ·rw [hgt] at hi hj
   by_cases h1:i=vs.size
   ·by_cases h2:j=vs.size
    ·rw [h1,h2]
    ·rw [if_pos h1] at hi;rw [if_neg h2] at hj;exact absurd hj ((hsq b hi).2 j)
   ·by_cases h2:j=vs.size
    ·rw [if_neg h1] at hi;rw [if_pos h2] at hj;exact absurd hi ((hsq b hj).2 i)
    ·rw [if_neg h1] at hi;rw [if_neg h2] at hj;exact hdb.1 i j b hi hj
  ·rw [hgt] at hi
   by_cases h1:i=vs.size
   ·rw [if_pos h1] at hi;exact (hsq b hi).1 hb
   ·rw [if_neg h1] at hi;exact hdb.2 i b hb hi
end
section
variable {α β:Type}
def mkR (α:Type)(n:Nat):Ars (List α):=((range n).map some,replicate n [])
def arq (r:Nat)(x:Option β):Option β:=x
end
section
variable {E:Env} {nt:Nat} {o:Oper} {σ:AS} {K:OpK} {α β:Type}
theorem OpX.asq {m:Ars (List α)}{v:List α}{k:Nat}{c:Ars (List α)->Option β}{r:β}{T id q ty ety:Nat}{x y:Operand}{i:TyI}(ev:α->AV)(hF:Proofs.YthbogefcfhmpgaaGreat.ast m k v c=some r)(ho:o.op=.store T x y)(hd:dokN E nt o.dst=true)(hxo:A0 x=true)(hyo:A0 y=true)(hx:σ.eval x=.der (.nelt k) id)(hy:σ.eval y=.row q)(hT:lkT E.tab T=some i)(hi1:i.sz=1)
  (hl:σ.find id=some (.are ty m.1 (m.2.map (enQ ev ety)))) (hq:σ.find q=some (.row ety 1 (v.map ev))) (hne:Nat.beq id q=false) (hk:∀ m',c m'=some r->K (.tup []) [id,q] [(id,.are ty m'.1 (m'.2.map (enQ ev ety))),(q,.dead)]):OpX E nt o σ K:=by
 unfold Proofs.YthbogefcfhmpgaaGreat.ast at hF
 split at hF
 ·rename_i hlt
  have h:=hk _ hF
  refine .mk _ _ _ (fun cx hE hnt=>zdf ho (Ac hd hE hnt) hxo hyo hx hy (by rw [hE];exact hT) hi1 hl hq hlt (nbne hne)) ?_
  simp only [length_map]
  simp only [map_append,map_cons,map_nil] at h
  exact h
 ·cases hF
end
section
variable {E:Env} {nt:Nat} {R:Exit->AS->Prop} {K:List B6} {β α:Type}
theorem AW.arqO {id ty m:Nat}{c:Code}{σ:AS}{x:Option β}{y:β}(ev:α->AV)(ety:Nat)(h:Proofs.YthbogefcfhmpgaaGreat.arq id x=some y)(r:Nat)(hr:σ.find r=some (.row ty 1 (replicate m .nils)))(k:x=some y->AW E nt R (.code c::K) .normal (σ.rpAll r E6 (.cont m r) (.are ty (mkR α m).1 ((mkR α m).2.map (enQ ev ety))))):AW E nt R (.code c::K) .normal σ :=
 AW.weaken (LeX.arr r ety hr) (by
  have h2:=k h
  unfold mkR at h2
  simp only [map_replicate] at h2
  exact h2)
end
section
variable {α β γ:Type} {E:Env} {f:FuncId}
def lnt (m:Ars α):Bool:=m.1.all fun o=>match o with|some j=>decide (j<m.2.length)|none=>false
def alq (m:Ars α)(x:Option β):Option β:=if lnt m=true then x else none
theorem znl {m:Ars (List α)}(ev:α->AV)(ety:Nat)(h:lnt m=true):(m.1.map (arA (m.2.map (enQ ev ety))))=(aval m).map fun q=>.sl 1 (q.map ev):=by
 unfold aval
 rw [map_map]
 refine map_congr_left (fun o ho=>?_)
 have h1:=all_eq_true.1 h o ho
 cases o with
 |none=>cases h1
 |some j =>
  have hj:j<m.2.length:=by simpa using h1
  simp only [arA,Function.comp]
  rw [aC,getElem?_map,getElem?_eq_getElem hj]
  rfl
theorem B3.oQ {m:Ars (List α)}{o:Option γ}{k:γ->Option β}{r:β}{fr:Bool}{K:AV->Prop}{raw avs avs':List AV}{find:Nat->Option Ent}{dst:Option Nat}{KR:AV->List Nat->List (Nat×Ent)->Prop}(h:alq m (bnd o k)=some r)(enc:γ->AV)(hc:∀ a,o=some a->Con E fr f avs' (enc a))(he:lnt m=true->avs'=avs)(hf:∀ a,fr=true\/(enc a).flat=true)(hk:∀ a,k a=some r->K (enc a)):B3 E f avs K raw find dst KR:=by
 unfold alq at h
 split at h
 ·rename_i q
  have he:=he q
  subst he
  exact B3.o h enc hc hf hk
 ·cases h
end
attribute [irreducible] mkR arq alq
noncomputable section
def Gn (n:Nat)(a0:A8)(e:Int×(List Bool))(c:(List Bool)->Option ((List Bool))):Nat->Int×(List Bool)->Option ((List Bool))
 |0,_=>none
 |d+1,b =>
  cnd (decide (b.1<((a0.fEdges.map A7).length:Int)))
   (idx a0.fEdges b.1 fun f =>
   reg <| nat f.fFrom (b.2.map AV.bool).length fun g =>
   elt b.2 g fun h =>
   cnd (h)
    (cnd (decide (0<=f.fTo))
      (nat f.fTo (b.2.map AV.bool).length fun j =>
      stx b.2 j (fun l=>true) fun k =>
      (Gn n a0 e c d) ((aA .i64 (b.1+1)),k))
    <| (Gn n a0 e c d) ((aA .i64 (b.1+1)),b.2))
   <| (Gn n a0 e c d) ((aA .i64 (b.1+1)),b.2))
  <| c b.2
def I1 (n:Nat)(a0:A8)(c:(List Bool)->Option ((List Bool))):Nat->Int×(List Bool)->Option ((List Bool))
 |0,_=>none
 |e+1,b =>
  cnd (decide (b.1<((a0.fStates.map Aj).length:Int)))
   (Gn n a0 b
     (fun d=>(I1 n a0 c e) ((aA .i64 (b.1+1)),d)) n (0,b.2))
  <| c b.2
def Oc (n:Nat)(a0:A8):Option ((List Bool)) :=
 mak ((a0.fStates.map Aj).length:Int) 1 (false:Bool) fun x1 =>
 nat 0 (x1.map AV.bool).length fun x2 =>
 stx x1 x2 (fun x3=>true) fun x4 =>
 I1 n a0
  (fun b=>some b) n (0,x4)
def R4 (n:Nat)(a0:A8):Option ((List Int)×Int) :=
 bnd (Es n a0) fun x1 =>
 cnd (!decide (x1=0))
  (some ([],x1))
 <| bnd (Oc n a0) fun x2 =>
 bnd (Oj n x2) fun x3 =>
 some (x3,0)
def Ku (n:Nat)(a0:(List Int))(c:(List Bool)->Option ((List Bool))):Nat->Int×(List Bool)->Option ((List Bool))
 |0,_=>none
 |d+1,b =>
  cnd (decide (b.1<((a0.map aI).length:Int)))
   (idx a0 b.1 fun e =>
   nat e (b.2.map AV.bool).length fun f =>
   stx b.2 f (fun h=>true) fun g =>
   (Ku n a0 c d) ((aA .i64 (b.1+1)),g))
  <| c b.2
def Ll (n:Nat)(a0:(List Int))(a1:Int):Option ((List Bool)) :=
 mak a1 1 (false:Bool) fun x1 =>
 Ku n a0
  (fun b=>some b) n (0,x1)
def Ep (n:Nat)(a0:A8)(x3:(List Bool))(x4:(List Bool))(c:(List Bool)->(List Bool)->Option ((List Bool)×(List Bool))):Nat->Int×(List Bool)->Option ((List Bool)×(List Bool))
 |0,_=>none
 |d+1,b =>
  cnd (decide (b.1<((a0.fEdges.map A7).length:Int)))
   (idx a0.fEdges b.1 fun e =>
   reg <| idx x3 e.fFrom fun f =>
   cnd (f)
    (cnd (decide (0<=e.fTo))
      (idx x4 e.fTo fun g =>
      cnd (g)
       (nat e.fTo (b.2.map AV.bool).length fun h =>
       stx b.2 h (fun k=>true) fun j =>
       (Ep n a0 x3 x4 c d) ((aA .i64 (b.1+1)),j))
      <| (Ep n a0 x3 x4 c d) ((aA .i64 (b.1+1)),b.2))
    <| (Ep n a0 x3 x4 c d) ((aA .i64 (b.1+1)),b.2))
   <| (Ep n a0 x3 x4 c d) ((aA .i64 (b.1+1)),b.2))
  <| c x3 b.2
def M1 (n:Nat)(a0:A8):Option ((List Bool)×(List Bool)) :=
 bnd (R4 n a0) fun x1 =>
 bnd (Rn n a0) fun x2 =>
 bnd (Ll n x1.1 ((a0.fStates.map Aj).length:Int)) fun x3 =>
 bnd (Ll n x2.1 ((a0.fStates.map Aj).length:Int)) fun x4 =>
 mak ((a0.fStates.map Aj).length:Int) 1 (false:Bool) fun x5 =>
 Ep n a0 x3 x4
  (fun b c=>some (b,c)) n (0,x5)
def Lm (n:Nat)(a1:Int)(a0:(List Int))(b:Option (Bool)):Nat->Int->Option (Bool)
 |0,_=>none
 |d+1,c =>
  cnd (decide (c<((a0.map aI).length:Int)))
   (idx a0 c fun e =>
   cnd (decide (e=a1))
    (some true)
   <| (Lm n a1 a0 b d) (aA .i64 (c+1)))
  <| b
def Hd (n:Nat)(a0:(List Int))(a1:Int):Option (Bool) :=
 Lm n a1 a0
  (some false) n 0
def Gu (n:Nat)(b:Bool):Option (Bool) :=
 some b
def Gv (n:Nat)(a3:(List (List Bool)))(a2:(List Bool))(a1:Int)(a0:Ab)(b:Bool):Option (Bool) :=
 cnd (b)
  (some false)
 <| jon (Gu n) <|
 reg <| idx a2 a0.fFrom fun x9 =>
 cnd (!(x9))
  (Gu n true)
 <| idx a3 a0.fFrom fun c =>
 idx c a1 fun d =>
 cnd (d)
  (bnd (Hd n a0.fOpens a1) fun e =>
  Gu n !(e))
 <| Gu n false
def Oy (n:Nat)(a0:Ab)(a1:Int)(a2:(List Bool))(a3:(List (List Bool))):Option (Bool) :=
 bnd (Hd n a0.fCloses a1) fun x1 =>
 cnd (x1)
  (some false)
 <| jon (Gv n a3 a2 a1 a0) <|
 reg <| cnd (decide (a0.fFrom=0))
  (bnd (Hd n a0.fOpens a1) fun b =>
  Gv n a3 a2 a1 a0 !(b))
 <| Gv n a3 a2 a1 a0 false
def Fg (n:Nat)(a2:(List Bool))(a1:(List Bool))(a0:A8)(c:Nat)(g:Bool×Int×(Ars (List Bool)))(d:Ab)(e:Bool->(Ars (List Bool))->Option ((List (List Bool)))):Nat->Bool×Int×(Ars (List Bool))->Option ((List (List Bool)))
 |0,_=>none
 |f+1,b =>
  cnd (decide (b.2.1<a0.fScopes))
   (reg <| ncx d.fTo c <|
   aob b.2.2 (Int.toNat d.fTo) fun h =>
   aix b.2.2 h b.2.1 fun k =>
   ald b.2.2 h k fun l =>
   cnd (l)
    (alq b.2.2 <| bnd (Oy n d b.2.1 a2 (aval b.2.2)) fun o =>
    cnd (!(o))
     (ncx d.fTo c <|
     aob b.2.2 (Int.toNat d.fTo) fun j =>
     aix b.2.2 j b.2.1 fun p =>
     asr b.2.2 j p false fun q =>
     (Fg n a2 a1 a0 c g d e f) (true,(aA .i64 (b.2.1+1)),q))
    <| (Fg n a2 a1 a0 c g d e f) (b.1,(aA .i64 (b.2.1+1)),b.2.2))
   <| (Fg n a2 a1 a0 c g d e f) (b.1,(aA .i64 (b.2.1+1)),b.2.2))
  <| e b.1 b.2.2
def Ek (n:Nat)(a2:(List Bool))(a1:(List Bool))(a0:A8)(c:Nat)(b:Bool×Int×(Ars (List Bool)))(f:(Bool×Int×(Ars (List Bool)))->Option ((List (List Bool))))(g:Ab)(h:Bool):Option ((List (List Bool))) :=
 cnd (h)
  (f (b.1,(aA .i64 (b.2.1+1)),b.2.2))
 <| Fg n a2 a1 a0 c b g
  (fun d e=>f (d,(aA .i64 (b.2.1+1)),e)) n (b.1,0,b.2.2)
def Dm (n:Nat)(a2:(List Bool))(a1:(List Bool))(a0:A8)(b:Nat)(c:Bool->(Ars (List Bool))->Option ((List (List Bool)))):Nat->Bool×Int×(Ars (List Bool))->Option ((List (List Bool)))
 |0,_=>none
 |f+1,d =>
  cnd (decide (d.2.1<((a0.fEdges.map A7).length:Int)))
   (idx a0.fEdges d.2.1 fun e =>
   jon (Ek n a2 a1 a0 b d (Dm n a2 a1 a0 b c f) e) <|
   reg <| idx a1 e.fFrom fun g =>
   cnd (!(g))
    (Ek n a2 a1 a0 b d (Dm n a2 a1 a0 b c f) e true)
   <| cnd (decide (e.fTo<0))
    (Ek n a2 a1 a0 b d (Dm n a2 a1 a0 b c f) e true)
   <| idx a2 e.fTo fun h =>
   Ek n a2 a1 a0 b d (Dm n a2 a1 a0 b c f) e !(h))
  <| c d.1 d.2.2
def Gm (n:Nat)(a2:(List Bool))(a1:(List Bool))(a0:A8)(b:Nat)(c:(Ars (List Bool))->Option ((List (List Bool)))):Nat->Bool×(Ars (List Bool))->Option ((List (List Bool)))
 |0,_=>none
 |g+1,d =>
  cnd (d.1)
   (Dm n a2 a1 a0 b
     (fun e f=>(Gm n a2 a1 a0 b c g) (e,f)) n (false,0,d.2))
  <| c d.2
def Ko (n:Nat)(a2:(List Bool))(a1:(List Bool))(a0:A8)(c:Nat×Int×(Ars (List Bool)))(d:(Ars (List Bool))->Option ((List (List Bool)))):Nat->Int×(Ars (List Bool))->Option ((List (List Bool)))
 |0,_=>none
 |f+1,b =>
  cnd (decide (b.1<a0.fScopes))
   (ncx c.2.1 c.1 <|
   aob b.2 (Int.toNat c.2.1) fun e =>
   idx a2 c.2.1 fun g =>
   aix b.2 e b.1 fun h =>
   asr b.2 e h g fun j =>
   (Ko n a2 a1 a0 c d f) ((aA .i64 (b.1+1)),j))
  <| d b.2
def I0 (n:Nat)(a2:(List Bool))(a1:(List Bool))(a0:A8)(c:Nat->(Ars (List Bool))->Option ((List (List Bool)))):Nat->Nat×Int×(Ars (List Bool))->Option ((List (List Bool)))
 |0,_=>none
 |e+1,b =>
  cnd (decide (b.2.1<((b.1:Nat):Int)))
   (mak a0.fScopes 1 (false:Bool) fun f =>
   ncx b.2.1 b.1 <|
   ast b.2.2 (Int.toNat b.2.1) f fun g =>
   Ko n a2 a1 a0 b
    (fun d=>(I0 n a2 a1 a0 c e) (b.1,(aA .i64 (b.2.1+1)),d)) n (0,g))
  <| c b.1 b.2.2
def Ob (n:Nat)(a0:A8)(a1:(List Bool))(a2:(List Bool)):Option ((List (List Bool))) :=
 mkn ((a0.fStates.map Aj).length:Int) 24 fun x1 =>
 arq 17 <| reg <| I0 n a2 a1 a0
  (fun c d=>Gm n a2 a1 a0 c
  (fun b=>frq 17 b <| reg <| some (aval b)) n (true,d)) n (x1,0,(mkR Bool x1))
def Lf (n:Nat)(a1:Int)(a0:Ab)(c:Option (Int)):Nat->Int->Option (Int)
 |0,_=>none
 |d+1,b =>
  cnd (decide (b<((a0.fLimits.map Bj).length:Int)))
   (idx a0.fLimits b fun e =>
   cnd (decide (e.fScope=a1))
    (idx a0.fLimits b fun f =>
    some f.fSpan)
   <| (Lf n a1 a0 c d) (aA .i64 (b+1)))
  <| c
def Ox (n:Nat)(a0:Ab)(a1:Int):Option (Int) :=
 bnd (Hd n a0.fOpens a1) fun x1 =>
 cnd (x1)
  (some (-1))
 <| Lf n a1 a0
  (some (-1)) n 0
def Iu (n:Nat)(a2:(List Bool))(a0:A8)(d:(List Ab)×Int×Int)(b:Int×Int)(e:Int->Option (Int))(c:(Int×Int)->Option (Int))(g:Bool):Option (Int) :=
 cnd (g)
  (idx d.1 b.2 fun h =>
  bnd (Ox n h d.2.2) fun f =>
  reg <| cnd (decide (f<0))
   (c ((-1),(aA .i64 (b.2+1))))
  <| c ((max b.1 f),(aA .i64 (b.2+1))))
 <| e b.1
def H0 (n:Nat)(a2:(List Bool))(a0:A8)(c:(List Ab)×Int×Int)(b:Int->Option (Int)):Nat->Int×Int->Option (Int)
 |0,_=>none
 |e+1,d =>
  jon (Iu n a2 a0 c d b (H0 n a2 a0 c b e)) <|
  reg <| cnd (decide (d.2<((c.1.map A7).length:Int)))
   (Iu n a2 a0 c d b (H0 n a2 a0 c b e) (decide (0<=d.1)))
  <| Iu n a2 a0 c d b (H0 n a2 a0 c b e) false
def D3 (n:Nat)(a2:(List Bool))(a0:A8)(c:Int->Option (Int)):Nat->(List Ab)×Int×Int->Option (Int)
 |0,_=>none
 |e+1,b =>
  cnd (decide (b.2.2<a0.fScopes))
   (idx a2 b.2.2 fun f =>
   cnd (!(f))
    ((D3 n a2 a0 c e) (b.1,b.2.1,(aA .i64 (b.2.2+1))))
   <| H0 n a2 a0 b
    (fun d=>reg <| cnd (decide (0<=d))
    (cnd (decide (b.2.1<0))
      ((D3 n a2 a0 c e) (b.1,d,(aA .i64 (b.2.2+1))))
    <| cnd (decide (d<b.2.1))
     ((D3 n a2 a0 c e) (b.1,d,(aA .i64 (b.2.2+1))))
    <| (D3 n a2 a0 c e) (b.1,b.2.1,(aA .i64 (b.2.2+1))))
   <| (D3 n a2 a0 c e) (b.1,b.2.1,(aA .i64 (b.2.2+1)))) n (0,0))
  <| c b.2.1
def P3 (n:Nat)(a0:A8)(a1:Int)(a2:(List Bool)):Option (Int) :=
 bnd (P0 n a0 a1) fun x1 =>
 D3 n a2 a0
  (fun b=>some b) n (x1,(-1),0)
def Ii (n:Nat)(a0:A8)(x2:(List Bool)×(List Bool))(x3:(List (List Bool)))(c:(List Int)->(List Bool)->Option ((List Int)×(List Bool)×Int)):Nat->Int×(List Int)×(List Bool)->Option ((List Int)×(List Bool)×Int)
 |0,_=>none
 |d+1,b =>
  cnd (decide (b.1<((a0.fStates.map Aj).length:Int)))
   (nat b.1 (b.2.2.map AV.bool).length fun g =>
   stx b.2.2 g (fun q=>true) fun e =>
   reg <| idx x2.2 b.1 fun h =>
   cnd (h)
    (idx x3 b.1 fun j =>
    bnd (P3 n a0 b.1 j) fun f =>
    nat b.1 (e.map AV.bool).length fun k =>
    stx e k (fun s=>decide (0<=f)) fun l =>
    nat b.1 (b.2.1.map aI).length fun o =>
    stx b.2.1 o (fun t=>(max (0:Int) f)) fun p =>
    (Ii n a0 x2 x3 c d) ((aA .i64 (b.1+1)),p,l))
   <| (Ii n a0 x2 x3 c d) ((aA .i64 (b.1+1)),b.2.1,e))
  <| c b.2.1 b.2.2
def H9 (n:Nat)(a0:A8):Option ((List Int)×(List Bool)×Int) :=
 bnd (Es n a0) fun x1 =>
 cnd (!decide (x1=0))
  (some ([],[],x1))
 <| bnd (M1 n a0) fun x2 =>
 bnd (Ob n a0 x2.1 x2.2) fun x3 =>
 mak ((a0.fStates.map Aj).length:Int) 8 (0:Int) fun x4 =>
 mak ((a0.fStates.map Aj).length:Int) 1 (false:Bool) fun x5 =>
 Ii n a0 x2 x3
  (fun b c=>some (b,c,0)) n (0,x4,x5)
def Fe (n:Nat)(b:Bool):Option (Bool) :=
 some b
def R0 (n:Nat)(a0:A8):Option (Bool) :=
 bnd (P5 n a0) fun x1 =>
 cnd (!(x1))
  (bnd (J3 n) fun x2 =>
  some x2)
 <| bnd (F6 n a0) fun x3 =>
 bnd (H9 n a0) fun x4 =>
 jon (Fe n) <|
 reg <| bnd (M8 n x3.1 x4.1) fun x9 =>
 cnd (x9)
  (bnd (M7 n x3.2.1 x4.2.1) fun b =>
  cnd (b)
   (cnd (decide (x3.2.2=x4.2.2))
     (bnd (J3 n) fun c =>
     Fe n c)
   <| Fe n false)
  <| Fe n false)
 <| Fe n false
attribute [irreducible] Gu Gv Ek Iu Fe
end
noncomputable section
abbrev z1y {n b a1 a0 c d e}:=jf (Ic n b a1 a0 c d e) (fun f=>⟨[(1,aI a1),(2,.ptr 2 0),(5,aI c.1),(6,aI c.2),(16,.bool (f))],[(2,.box 146 (Co a0))]⟩) fun _=>Ic.eq_1 ..
abbrev z1x {n b a1 a0 c}:=li (Gt n b a1 a0 c) (fun d=>⟨[(1,aI a1),(2,.ptr 2 0),(5,aI d.1),(6,aI d.2)],[(2,.box 146 (Co a0))]⟩) fun _ _=>Gt.eq_2 ..
abbrev z1w {n b a0 c}:=li (L9 n b a0 c) (fun d=>⟨[(1,.ptr 1 0),(3,aI d.1),(4,aI d.2)],[(1,.box 146 (Co a0))]⟩) fun _ _=>L9.eq_2 ..
abbrev z1u {n}:=jt (Dq n) (fun b=>⟨[(12,.bool (b))],[]⟩) fun _=>Dq.eq_1 ..
abbrev z1v {n a0}:=jt (En n a0) (fun b=>⟨[(3,aI a0),(4,.bool (b))],[]⟩) fun _=>En.eq_1 ..
abbrev z2m {n b}:=jf (Gw n b) (fun c=>⟨[(2,.bool (c)),(3,.bool (b))],[]⟩) fun _=>Gw.eq_1 ..
abbrev z2n {n a0}:=jf (Im n a0) (fun b=>⟨[(0,aI a0),(4,.bool (b))],[]⟩) fun _=>Im.eq_1 ..
abbrev z1z {n}:=jf (Fj n) (fun b=>⟨[(4,.bool (b))],[]⟩) fun _=>Fj.eq_1 ..
abbrev z2o {n}:=jf (Bp n) (fun b=>⟨[(130,.bool (b))],[]⟩) fun _=>Bp.eq_1 ..
abbrev z2p {n a0 x2 b}:=jf (Fk n a0 x2 b) (fun c=>⟨[(1,.ptr 1 0),(4,.bool (x2.1)),(5,.bool (x2.2)),(6,.bool (decide (a0.fOp=4))),(7,.bool (b)),(95,.bool (c))],[(1,.box 146 (Co a0))]⟩) fun _=>Fk.eq_1 ..
abbrev z2q {n a0 x2 b}:=jt (Io n a0 x2 b) (fun _=>⟨[(1,.ptr 1 0),(4,.bool (x2.1)),(5,.bool (x2.2)),(6,.bool (decide (a0.fOp=4))),(7,.bool (b))],[(1,.box 146 (Co a0))]⟩) fun _=>Io.eq_1 ..
abbrev z2r {n a0 x2}:=jf (Ip n a0 x2) (fun b=>⟨[(1,.ptr 1 0),(4,.bool (x2.1)),(5,.bool (x2.2)),(6,.bool (decide (a0.fOp=4))),(7,.bool (b))],[(1,.box 146 (Co a0))]⟩) fun _=>Ip.eq_1 ..
abbrev z2s {n a0 x2}:=jf (Gx n a0 x2) (fun b=>⟨[(1,.ptr 1 0),(4,.bool (x2.1)),(5,.bool (x2.2)),(6,.bool (decide (a0.fOp=4))),(62,.bool (b))],[(1,.box 146 (Co a0))]⟩) fun _=>Gx.eq_1 ..
abbrev z2t {n a0 x2}:=jf (Dd n a0 x2) (fun b=>⟨[(1,.ptr 1 0),(4,.bool (x2.1)),(5,.bool (x2.2)),(48,.bool (b))],[(1,.box 146 (Co a0))]⟩) fun _=>Dd.eq_1 ..
abbrev z1t {n b a0 c}:=li (L8 n b a0 c) (fun d=>⟨[(1,.ptr 1 0),(4,aI d)],[(1,.box 146 (Co a0))]⟩) fun _ _=>L8.eq_2 ..
attribute [instance] z1y z1x z1w z1u z1v z2m z2n z1z z2o z2p z2q z2r z2s z2t z1t
def z4i (r:Int):AV:=aI (r)
theorem z1j {n a0 a1 r}(hF:Eu n a0 a1=some r):Con E0 true 148 [Ah a0,aI a1] (aI r):=by
 induction n generalizing a0 a1 r
 case zero=>cases hF
 case succ n ih =>
 unfold Eu at hF
 refine cw Tryz.func148 ?_
 repeat' first
  |refine aQ hF (fun v hF=>?_) fun hF=>?_
  |refine aG hF fun hF=>?_
  |refine aF [3] ?_;conv=>whnf
  |refine aN hF (fun hF=>?_) fun hF=>?_
  |refine aH hF De (fun x hF=>?_)
  |refine Ad.o hF z4i (fun a h=>ih h) (fun a hF=>?_)
  |exact ⟨_,hF,aB []⟩
  |refine Ap.I hF (aB []) fun m v hF=>?_
  |exact aD hF
instance za1 {n a0 a1}:CI E0 (Eu n a0 a1) true 148 [Ah a0,aI a1] aI:=⟨z1j⟩
def z4h (r:Int):AV:=aI (r)
theorem z1i {n a0 r}(hF:Et n a0=some r):Con E0 true 149 [Ah a0] (aI r):=by
 induction n generalizing a0 r
 case zero=>cases hF
 case succ n ih =>
 unfold Et at hF
 refine cw Tryz.func149 ?_
 repeat' first
  |refine aL ?_;conv=>whnf
  |refine aN hF (fun hF=>?_) fun hF=>?_
  |refine aH hF De (fun x hF=>?_)
  |refine Ad.o hF z4h (fun a h=>ih h) (fun a hF=>?_)
  |exact ⟨_,hF,aB []⟩
  |refine Ap.I hF (aB []) fun m v hF=>?_
  |exact aD hF
instance za0 {n a0}:CI E0 (Et n a0) true 149 [Ah a0] aI:=⟨z1i⟩
instance z9z {n a0}:CI E0 (Ot n a0) true 305 [aI a0] aI:=by unfold Ot;exact aE [2,3,4,5,10,11,12,13,14,15] Tryz.func305
instance zao {n a0}:CI E0 (P1 n a0) true 306 [aI a0] (fun r=>.tup [.bool (r.1),.bool (r.2)]):=by unfold P1;exact aE [1,2] Tryz.func306
instance za4 {n a0}:CI E0 (Fp n a0) true 269 [Aa a0] aI:=by unfold Fp;exact aE [] Tryz.func269
instance za3 {n a0 a1}:CI E0 (J2 n a0 a1) true 307 [aI a0,Aa a1] (fun r=>.bool (r)):=by unfold J2;exact aE [1] Tryz.func307
instance zap {n a0}:CI E0 (P2 n a0) true 262 [Ah a0] aI:=⟨fun {r} hF=>by
 unfold P2 at hF
 refine cw Tryz.func262 ?_
 repeat' first
  |refine aQ hF (fun v hF=>?_) fun hF=>?_
  |refine AW.jI2 hF (fun v hF=>?_) fun hF=>?_
  |refine aG hF fun hF=>?_
  |refine aF [7,10,12,13,17,19] ?_;conv=>whnf
  |refine aN hF (fun hF=>?_) fun hF=>?_
  |refine A3.t ?_
  |refine A3.f ?_
  |refine Ad.I hF fun a hF=>?_
  |exact ⟨_,hF,aB []⟩
  |exact ⟨(),hF,aB []⟩
  |refine EqX.A ?_
  |exact aD hF⟩
def z4g (r:Int):AV:=aI (r)
theorem z1h {n a0 r}(hF:Fo n a0=some r):Con E0 true 208 [Ah a0] (aI r):=by
 induction n generalizing a0 r
 case zero=>cases hF
 case succ n ih =>
 unfold Fo at hF
 refine cw Tryz.func208 ?_
 repeat' first
  |refine aL ?_;conv=>whnf
  |refine aN hF (fun hF=>?_) fun hF=>?_
  |refine Ad.I hF fun a hF=>?_
  |refine aH hF De (fun x hF=>?_)
  |refine Ad.o hF z4g (fun a h=>ih h) (fun a hF=>?_)
  |exact ⟨_,hF,aB []⟩
  |refine Ap.I hF (aB []) fun m v hF=>?_
  |exact aD hF
instance z9y {n a0}:CI E0 (Fo n a0) true 208 [Ah a0] aI:=⟨z1h⟩
end
noncomputable section
abbrev z3e {n}:=jf (Iv n) (fun b=>⟨[(4,.bool (b))],[]⟩) fun _=>Iv.eq_1 ..
abbrev z13 {n a1 a0 b c}:=li (Kw n a1 a0 b c) (fun d=>⟨[(1,.sl 11 (a1.map B0)),(2,.ptr 2 0),(5,aI b),(6,aI d)],[(2,.box 26 (Ao a0))]⟩) fun _ _=>Kw.eq_2 ..
abbrev z15 {n a1 a0 b c}:=jf (Gq n a1 a0 b c) (fun d=>⟨[(1,.sl 11 (a1.map B0)),(2,.ptr 2 0),(5,aI b),(44,.bool (d))],[(2,.box 26 (Ao a0))]⟩) fun _=>Gq.eq_1 ..
abbrev z14 {n a1 a0 b}:=li (El n a1 a0 b) (fun c=>⟨[(1,.sl 11 (a1.map B0)),(2,.ptr 2 0),(5,aI c)],[(2,.box 26 (Ao a0))]⟩) fun _ _=>El.eq_2 ..
abbrev z10 {n a1 a0 b c}:=li (Kv n a1 a0 b c) (fun d=>⟨[(0,.sl 1 (a0.map aI)),(1,aI a1),(5,aI b),(6,aI d)],[]⟩) fun _ _=>Kv.eq_2 ..
abbrev z11 {n a1 a0 b}:=li (I5 n a1 a0 b) (fun c=>⟨[(0,.sl 1 (a0.map aI)),(1,aI a1),(5,aI c)],[]⟩) fun _ _=>I5.eq_2 ..
abbrev z1m {n a1 b}:=li (Ib n a1 b) (fun c=>⟨[(3,.ptr 3 0),(10,aI c)],[(3,.box 149 (Bt a1))]⟩) fun _ _=>Ib.eq_2 ..
abbrev z1n {n a1 a0 b c}:=li (Fh n a1 a0 b c) (fun d=>⟨[(2,.ptr 2 0),(3,.ptr 3 0),(7,.sl 1 [.sl 1 (a1.fOpens.map aI),.sl 1 (a1.fCloses.map aI),.sl 1 (a1.fInside.map aI),.sl 1 (b.map aI)]),(8,aI d)],[(2,.box 26 (Ao a0)),(3,.box 149 (Bt a1))]⟩) fun _ _=>Fh.eq_2 ..
abbrev z1o {n a1 a0 b}:=li (L5 n a1 a0 b) (fun c=>⟨[(2,.ptr 2 0),(3,.ptr 3 0),(5,.row 7026),(6,aI c.1)],[(2,.box 26 (Ao a0)),(3,.box 149 (Bt a1)),(7026,.row 3 1 (c.2.map aI))]⟩) fun _ _=>L5.eq_2 ..
abbrev z2f {n a1 a0 b}:=li (Lg n a1 a0 b) (fun c=>⟨[(3,.ptr 3 0),(4,.ptr 4 0),(9,aI c)],[(3,.box 26 (Ao a0)),(4,.box 149 (Bt a1))]⟩) fun _ _=>Lg.eq_2 ..
abbrev z2g {n a2 a1 a0}:=jf (D2 n a2 a1 a0) (fun b=>⟨[(2,aI a2),(3,.ptr 3 0),(4,.ptr 4 0),(42,.bool (b))],[(3,.box 26 (Ao a0)),(4,.box 149 (Bt a1))]⟩) fun _=>D2.eq_1 ..
abbrev z1p {n a0 b}:=li (L6 n a0 b) (fun c=>⟨[(1,.ptr 1 0),(5,aI c.1),(6,aI c.2)],[(1,.box 26 (Ao a0))]⟩) fun _ _=>L6.eq_2 ..
abbrev z1q {n a0 b}:=li (L7 n a0 b) (fun c=>⟨[(1,.ptr 1 0),(3,aI c)],[(1,.box 26 (Ao a0))]⟩) fun _ _=>L7.eq_2 ..
abbrev z1r {n a0}:=jf (Em n a0) (fun b=>⟨[(1,.ptr 1 0),(31,.bool (b))],[(1,.box 26 (Ao a0))]⟩) fun _=>Em.eq_1 ..
abbrev z1s {n a0}:=jf (Fi n a0) (fun b=>⟨[(1,.ptr 1 0),(15,.bool (b))],[(1,.box 26 (Ao a0))]⟩) fun _=>Fi.eq_1 ..
attribute [instance] z3e z13 z15 z14 z10 z11 z1m z1n z1o z2f z2g z1p z1q z1r z1s
instance za2 {n a0}:CI E0 (Ew n a0) true 134 [Ah a0] aI:=by unfold Ew;exact aE [] Tryz.func134
instance zc1 {n a0 a1}:CI E0 (Ce n a0 a1) true 65 [aI a0,aI a1] (fun r=>.bool (r)):=by unfold Ce;exact aE [1] Tryz.func65
instance z9g {n a0 a1}:CI E0 (Ok n a0 a1) true 66 [B4 a0,.sl 11 (a1.map B0)] aI:=by unfold Ok;exact aE [6] Tryz.func66
instance z9e {n a0 a1}:CI E0 (Ln n a0 a1) true 209 [.sl 1 (a0.map aI),aI a1] aI:=by unfold Ln;exact aE [] Tryz.func209
instance z9w {n a0 a1}:CI E0 (Lv n a0 a1) true 135 [B4 a0,A7 a1] aI:=⟨fun {r} hF=>by
 unfold Lv at hF
 refine cw Tryz.func135 ?_
 repeat' first
  |refine aG hF fun hF=>?_
  |refine AW.frzO hF 7026 rfl (fun hF=>?_)
  |refine aF [6] ?_;conv=>whnf
  |refine aN hF (fun hF=>?_) fun hF=>?_
  |refine aS hF fun x hF=>?_
  |refine Ad.I hF fun a hF=>?_
  |exact ⟨_,hF,aB []⟩
  |refine Ap.I hF ?_ fun m v hF=>?_
  |exact aB []
  |refine IdxX.o (fun q=>AV.sl 1 (List.map aI q)) hF fun x hF=>?_
  |refine AppX.oA hF fun l hF=>?_
  |exact ⟨_,hF,aB [(7026,26)]⟩
  |exact LeX.trans (LeX.adopt 5 7026 3 1 rfl rfl) (aB [])
  |refine AndA ?_
  |exact aD hF⟩
instance zam {n a0 a1 a2}:CI E0 (Oz n a0 a1 a2) true 67 [B4 a0,A7 a1,aI a2] aI:=⟨fun {r} hF=>by
 unfold Oz at hF
 refine cw Tryz.func67 ?_
 repeat' first
  |refine aQ hF (fun v hF=>?_) fun hF=>?_
  |refine aG hF fun hF=>?_
  |refine aF [2] ?_;conv=>whnf
  |refine aN hF (fun hF=>?_) fun hF=>?_
  |refine A3.t ?_
  |refine A3.f ?_
  |refine Ad.I hF fun a hF=>?_
  |refine aH hF De (fun x hF=>?_)
  |exact ⟨_,hF,aB []⟩
  |refine Ap.I hF (aB []) fun m v hF=>?_
  |exact aD hF⟩
end
noncomputable section
abbrev z8d {n b a0 d}:=li (N2 n b a0 d) (fun c=>⟨[(4,aI c.1),(5,aI c.2.1),(11,.sl 8 (a0.fArgs.map idA)),(12,aI (((a0.fArgs.map idA).length:Int))),(13,aI c.2.2)],[]⟩) fun _ _=>N2.eq_2 ..
abbrev z7c {n a0}:=jf (Jn n a0) (fun b=>⟨[(0,aI a0),(4,.bool (b))],[]⟩) fun _=>Jn.eq_1 ..
abbrev z86 {n}:=jt (Jp n) (fun b=>⟨[(8,.bool (b))],[]⟩) fun _=>Jp.eq_1 ..
abbrev z87 {n a0}:=jt (Jq n a0) (fun b=>⟨[(4,aI a0),(5,.bool (b))],[]⟩) fun _=>Jq.eq_1 ..
abbrev z7b {n}:=jf (Hk n) (fun b=>⟨[(4,.bool (b))],[]⟩) fun _=>Hk.eq_1 ..
abbrev z56 {n}:=jf (Fz n) (fun b=>⟨[(31,.bool (b))],[]⟩) fun _=>Fz.eq_1 ..
abbrev z88 {n}:=jf (Bq n) (fun b=>⟨[(113,.bool (b))],[]⟩) fun _=>Bq.eq_1 ..
abbrev z89 {n a0 x2 b}:=jt (Jr n a0 x2 b) (fun _=>⟨[(1,.ptr 1 0),(5,.bool (x2.1)),(6,.bool (x2.2)),(7,.bool (decide (a0.fOp=4))),(8,.bool (b))],[(1,.box 146 (Co a0))]⟩) fun _=>Jr.eq_1 ..
abbrev z8a {n a0 x2}:=jf (Js n a0 x2) (fun b=>⟨[(1,.ptr 1 0),(5,.bool (x2.1)),(6,.bool (x2.2)),(7,.bool (decide (a0.fOp=4))),(8,.bool (b))],[(1,.box 146 (Co a0))]⟩) fun _=>Js.eq_1 ..
abbrev z8b {n a0 x2}:=jf (Hm n a0 x2) (fun b=>⟨[(1,.ptr 1 0),(5,.bool (x2.1)),(6,.bool (x2.2)),(7,.bool (decide (a0.fOp=4))),(66,.bool (b))],[(1,.box 146 (Co a0))]⟩) fun _=>Hm.eq_1 ..
abbrev z8c {n a0 x2}:=jf (Df n a0 x2) (fun b=>⟨[(1,.ptr 1 0),(5,.bool (x2.1)),(6,.bool (x2.2)),(52,.bool (b))],[(1,.box 146 (Co a0))]⟩) fun _=>Df.eq_1 ..
abbrev z7a {n b a0 c}:=li (Mz n b a0 c) (fun d=>⟨[(1,.fn 238 []),(16,.sl 8 (a0.fArgs.map idA)),(17,aI (((a0.fArgs.map idA).length:Int))),(18,aI d)],[]⟩) fun _ _=>Mz.eq_2 ..
abbrev z41 {n}:=jf (J4 n) (fun b=>⟨[(4,.bool (b))],[]⟩) fun _=>J4.eq_1 ..
attribute [instance] z8d z7c z86 z87 z7b z56 z88 z89 z8a z8b z8c z7a z41
instance z9x {n a0}:CI E0 (Es n a0) true 19 [B4 a0] aI:=by unfold Es;exact aE [1,3] Tryz.func19
def zen (r:Int×Int):AV:=.tup [aI (r.1),aI (r.2)]
theorem z7k {n a0 r}(hF:Ga n a0=some r):Con E0 true 236 [Ah a0] (.tup [aI r.1,aI r.2]):=by
 induction n generalizing a0 r
 case zero=>cases hF
 case succ n ih =>
 unfold Ga at hF
 refine cw Tryz.func236 ?_
 repeat' first
  |refine aL ?_;conv=>whnf
  |refine aN hF (fun hF=>?_) fun hF=>?_
  |refine aH hF De (fun x hF=>?_)
  |refine Ad.o hF zen (fun a h=>ih h) (fun a hF=>?_)
  |exact ⟨_,hF,aB []⟩
  |refine Ap.I hF (aB []) fun m v hF=>?_
  |exact aD hF
instance zl3 {n a0}:CI E0 (Ga n a0) true 236 [Ah a0] (fun r=>.tup [aI r.1,aI r.2]):=⟨z7k⟩
instance zjp {n a0}:CI E0 (Q2 n a0) true 282 [aI a0] (fun r=>.tup [aI r.1,.bool (r.2)]):=by unfold Q2;exact aE [1] Tryz.func282
instance zl0 {n a0}:CI E0 (N5 n a0) true 264 [aI a0] (fun r=>.tup [.bool (r.1),.bool (r.2)]):=by unfold N5;exact aE [2,5] Tryz.func264
instance zjj {n a0}:CI E0 (Jt n a0) true 310 [Aa a0] aI:=by unfold Jt;exact aE [] Tryz.func310
instance zj7 {n a0}:CI E0 (F5 n a0) true 271 [Aa a0] aI:=by unfold F5;exact aE [] Tryz.func271
instance zjn {n a0 a1}:CI E0 (Q1 n a0 a1) true 312 [aI a0,Aa a1] (fun r=>.bool (r)):=by unfold Q1;exact aE [1] Tryz.func312
instance zfy {n a0}:CI E0 (Ps n a0) true 283 [Ah a0] aI:=by unfold Ps;exact aE [4] Tryz.func283
instance zl1 {n a0}:CI E0 (Q9 n a0) true 238 [Ah a0] aI:=⟨fun {r} hF=>by
 unfold Q9 at hF
 refine cw Tryz.func238 ?_
 repeat' first
  |refine aQ hF (fun v hF=>?_) fun hF=>?_
  |refine AW.jI2 hF (fun v hF=>?_) fun hF=>?_
  |refine aG hF fun hF=>?_
  |refine aF [7,10,12,13,17] ?_;conv=>whnf
  |refine aN hF (fun hF=>?_) fun hF=>?_
  |refine A3.t ?_
  |refine A3.f ?_
  |refine Ad.I hF fun a hF=>?_
  |exact ⟨_,hF,aB []⟩
  |exact ⟨(),hF,aB []⟩
  |refine EqX.A ?_
  |exact aD hF⟩
def zcw (r:Int):AV:=aI (r)
theorem z6k {n a0 r}(hF:G7 n a0=some r):Con E0 true 237 [Ah a0,.fn 238 []] (aI r):=by
 induction n generalizing a0 r
 case zero=>cases hF
 case succ n ih =>
 unfold G7 at hF
 refine cw Tryz.func237 ?_
 repeat' first
  |refine aL ?_;conv=>whnf
  |refine aN hF (fun hF=>?_) fun hF=>?_
  |refine Ad.I hF fun a hF=>?_
  |refine aH hF De (fun x hF=>?_)
  |refine Ad.o hF zcw (fun a h=>ih h) (fun a hF=>?_)
  |exact ⟨_,hF,aB []⟩
  |refine Ap.I hF (aB []) fun m v hF=>?_
  |exact aD hF
instance zjm {n a0}:CI E0 (G7 n a0) true 237 [Ah a0,.fn 238 []] aI:=⟨z6k⟩
instance zjr {n a0}:CI E0 (G8 n a0) true 178 [Ah a0] aI:=by unfold G8;exact aE [] Tryz.func178
instance zd0 {n a0 a1}:CI E0 (Dr n a0 a1) true 117 [aI a0,aI a1] (fun r=>.bool (r)):=by unfold Dr;exact aE [1] Tryz.func117
end
noncomputable section
abbrev z3z {n b a0 c}:=li (Lw n b a0 c) (fun d=>⟨[(0,.sl 11 (a0.map B0)),(1,.fn 177 [.ref (Q6 b)]),(7,aI (((a0.map B0).length:Int))),(8,aI d)],[]⟩) fun _ _=>Lw.eq_2 ..
abbrev z46 {n a1 a0 b c d}:=jf (H7 n a1 a0 b c d) (fun e=>⟨[(1,.sl 11 (a1.map B0)),(2,.ptr 2 0),(5,aI b),(6,.ptr 6 0),(11,.sl 11 (a1.map B0)),(12,aI (((a1.map B0).length:Int))),(13,aI b),(18,.bool (e))],[(2,.box 26 (Ao a0)),(6,.box 216 (Q6 d))]⟩) fun _=>H7.eq_1 ..
abbrev z45 {n a1 a0 b}:=li (Ex n a1 a0 b) (fun c=>⟨[(1,.sl 11 (a1.map B0)),(2,.ptr 2 0),(11,.sl 11 (a1.map B0)),(12,aI (((a1.map B0).length:Int))),(13,aI c)],[(2,.box 26 (Ao a0))]⟩) fun _ _=>Ex.eq_2 ..
abbrev z3s {n a0 b}:=li (Lu n a0 b) (fun c=>⟨[(3,.row 7016),(6,.sl 2 (a0.map Bj)),(7,aI (((a0.map Bj).length:Int))),(8,aI c.1)],[(7016,.row 3 1 (c.2.map aI))]⟩) fun _ _=>Lu.eq_2 ..
abbrev z5v {n a1 a0 b}:=li (Mi n a1 a0 b) (fun c=>⟨[(0,.sl 1 (a0.map aI)),(1,aI a1),(7,aI (((a0.map aI).length:Int))),(8,aI c)],[]⟩) fun _ _=>Mi.eq_2 ..
abbrev z43 {n a1 a0 c b d}:=li (Ft n a1 a0 c b d) (fun e=>⟨[(2,.ptr 2 0),(6,.sl 1 (b.map aI)),(9,.sl 1 (List.map (fun q=>AV.sl 1 (List.map aI q)) (a1))),(10,aI ((((List.map (fun q=>AV.sl 1 (List.map aI q)) (a1)).length:Nat):Int))),(11,aI c),(15,.sl 1 (b.map aI)),(16,aI (((b.map aI).length:Int))),(17,aI e)],[(2,.box 26 (Ao a0))]⟩) fun _ _=>Ft.eq_2 ..
abbrev z44 {n a1 a0 b}:=li (H6 n a1 a0 b) (fun c=>⟨[(2,.ptr 2 0),(9,.sl 1 (List.map (fun q=>AV.sl 1 (List.map aI q)) (a1))),(10,aI ((((List.map (fun q=>AV.sl 1 (List.map aI q)) (a1)).length:Nat):Int))),(11,aI c)],[(2,.box 26 (Ao a0))]⟩) fun _ _=>H6.eq_2 ..
abbrev z47 {n}:=jf (H8 n) (fun b=>⟨[(2,.bool (b))],[]⟩) fun _=>H8.eq_1 ..
abbrev z16 {n a0 b}:=li (Ky n a0 b) (fun c=>⟨[(0,.sl 2 (a0.map Bj)),(1,.fn 182 []),(7,aI (((a0.map Bj).length:Int))),(8,aI c)],[]⟩) fun _ _=>Ky.eq_2 ..
attribute [instance] z3z z46 z45 z3s z5v z43 z44 z47 z16
instance zav {n a0 a1}:CI E0 (M4 n a0 a1) true 177 [B0 a0,.ref (Q6 a1)] (fun r=>.bool (r)):=by unfold M4;exact aE [] Tryz.func177
instance zcy {n a0 b}:CI E0 (Ph n a0 b) true 235 [.sl 11 (a0.map B0),.fn 177 [.ref (Q6 b)]] aI:=by unfold Ph;exact aE [] Tryz.func235
instance za7 {n a0 b}:CI E0 (Lx n a0 b) true 175 [.sl 11 (a0.map B0),.fn 177 [.ref (Q6 b)]] (fun r=>.bool (r)):=by unfold Lx;exact aE [] Tryz.func175
instance zd3 {n a0 a1}:CI E0 (Pn n a0 a1) true 110 [B4 a0,.sl 11 (a1.map B0)] aI:=⟨fun {r} hF=>by
 unfold Pn at hF
 refine cw Tryz.func110 ?_
 repeat' first
  |refine aQ hF (fun v hF=>?_) fun hF=>?_
  |refine aG hF fun hF=>?_
  |refine aF [6] ?_;conv=>whnf
  |refine aN hF (fun hF=>?_) fun hF=>?_
  |refine A3.t ?_
  |refine aS hF fun x hF=>?_
  |refine SlsX.o B0 hF (fun l hF=>?_)
  |refine B3.I hF (fun a hF=>?_) rfl rfl fun _=>aK rfl
  |refine Ad.I hF fun a hF=>?_
  |exact ⟨_,hF,aB []⟩
  |refine Ap.I hF (aB []) fun m v hF=>?_
  |exact aD hF⟩
instance zci {n a0}:CI E0 (M9 n a0) false 180 [.sl 2 (a0.map Bj)] (fun r=>.sl 1 (r.map aI)):=⟨fun {r} hF=>by
 unfold M9 at hF
 refine cw Tryz.func180 ?_
 repeat' first
  |refine aL ?_;conv=>whnf
  |refine aN hF (fun hF=>?_) fun hF=>?_
  |refine aS hF fun x hF=>?_
  |refine AppX.oA hF fun l hF=>?_
  |exact ⟨_,hF,aB [(7016,16)]⟩
  |refine Ap.I hF ?_ fun m v hF=>?_
  |exact LeX.trans (LeX.adopt 3 7016 3 1 rfl rfl) (aB [])
  |exact aD hF⟩
instance zha {n a0 a1}:CI E0 (Sv n a0 a1) true 95 [.sl 1 (a0.map aI),aI a1] aI:=by unfold Sv;exact aE [] Tryz.func95
instance ze7 {n a0 a1}:CI E0 (Eb n a0 a1) true 39 [.sl 1 (a0.map aI),aI a1] (fun r=>.bool (r)):=by unfold Eb;exact aE [] Tryz.func39
instance zd2 {n a0 a1}:CI E0 (Pm n a0 a1) true 179 [B4 a0,.sl 1 (List.map (fun q=>AV.sl 1 (List.map aI q)) (a1))] aI:=⟨fun {r} hF=>by
 unfold Pm at hF
 refine cw Tryz.func179 ?_
 repeat' first
  |refine aL ?_;conv=>whnf
  |refine aN hF (fun hF=>?_) fun hF=>?_
  |refine IdxX.o (fun q=>AV.sl 1 (List.map aI q)) hF fun x hF=>?_
  |exact ⟨_,hF,aB []⟩
  |refine aS hF fun x hF=>?_
  |refine Ad.I hF fun a hF=>?_
  |refine SlsX.o aI hF (fun l hF=>?_)
  |refine Ap.I hF (aB []) fun m v hF=>?_
  |exact aD hF⟩
instance zd4 {n a0}:CI E0 (Hg n a0) true 182 [Bj a0] (fun r=>.bool (r)):=by unfold Hg;exact aE [1] Tryz.func182
instance z9i {n a0}:CI E0 (Om n a0) true 190 [.sl 2 (a0.map Bj),.fn 182 []] aI:=by unfold Om;exact aE [] Tryz.func190
instance z7h {n a0}:CI E0 (Kz n a0) true 181 [.sl 2 (a0.map Bj),.fn 182 []] (fun r=>.bool (r)):=by unfold Kz;exact aE [] Tryz.func181
end
noncomputable section
abbrev z5a {n a1 a0 b}:=li (G1 n a1 a0 b) (fun c=>⟨[(3,.ptr 3 0),(4,.ptr 4 0),(63,.sl 8 (a1.fChecks.map idA)),(64,aI (((a1.fChecks.map idA).length:Int))),(65,aI c)],[(3,.box 26 (Ao a0)),(4,.box 149 (Bt a1))]⟩) fun _ _=>G1.eq_2 ..
abbrev z5b {n a2 a1 a0}:=jf (Cn n a2 a1 a0) (fun b=>⟨[(2,aI a2),(3,.ptr 3 0),(4,.ptr 4 0),(12,.bool (b))],[(3,.box 26 (Ao a0)),(4,.box 149 (Bt a1))]⟩) fun _=>Cn.eq_1 ..
abbrev z4v {n a0 b}:=li (Fv n a0 b) (fun c=>⟨[(1,.ptr 1 0),(6,aI c.1),(62,.sl 17 (a0.fEdges.map A7)),(63,aI (((a0.fEdges.map A7).length:Int))),(64,aI c.2)],[(1,.box 26 (Ao a0))]⟩) fun _ _=>Fv.eq_2 ..
abbrev z4w {n a0 b}:=li (Fw n a0 b) (fun c=>⟨[(1,.ptr 1 0),(47,.sl 1 (a0.fStates.map Aj)),(48,aI (((a0.fStates.map Aj).length:Int))),(49,aI c)],[(1,.box 26 (Ao a0))]⟩) fun _ _=>Fw.eq_2 ..
abbrev z4x {n a0}:=jf (D5 n a0) (fun b=>⟨[(1,.ptr 1 0),(29,.bool (b))],[(1,.box 26 (Ao a0))]⟩) fun _=>D5.eq_1 ..
abbrev z4y {n a0}:=jf (D6 n a0) (fun b=>⟨[(1,.ptr 1 0),(10,.bool (b))],[(1,.box 26 (Ao a0))]⟩) fun _=>D6.eq_1 ..
attribute [instance] z5a z5b z4v z4w z4x z4y        
instance zg0 {n a0 a1 a2}:CI E0 (Hj n a0 a1 a2) true 111 [B4 a0,A7 a1,aI a2] aI:=⟨fun {r} hF=>by
 unfold Hj at hF
 refine cw Tryz.func111 ?_
 repeat' first
  |refine aQ hF (fun v hF=>?_) fun hF=>?_
  |refine aG hF fun hF=>?_
  |refine aF [1] ?_;conv=>whnf
  |refine aN hF (fun hF=>?_) fun hF=>?_
  |refine A3.t ?_
  |refine Ad.I hF fun a hF=>?_
  |refine aH hF De (fun x hF=>?_)
  |exact ⟨_,hF,aB []⟩
  |refine Ap.I hF (aB []) fun m v hF=>?_
  |refine AndA ?_
  |exact aD hF⟩
instance zec {n a0}:CI E0 (Bz n a0) true 53 [B4 a0] aI:=by unfold Bz;exact aE [1,3] Tryz.func53
end
end Go.Proofs.YthbogefcfhmpgaaGreat
