/- Arguments opened. -/
import Derived.Test.YtkoamfnbbhfaiaaGreatDoorK16
set_option linter.unusedVariables false
set_option linter.unusedSimpArgs false
set_option maxRecDepth 100000
set_option maxHeartbeats 8000000
namespace Go.Proofs.YtkoamfnbbhfaiaaGreatDoor
open Go.ChangeShapes Go.WideShapes Go.ChangeAt Go.RowKit Go.Joins Go.Deep List
section
variable {H:Type} {enc:TypeId×Value->H} {W:World} {base:Nat} {v:Value} {d:DataW H} {p:List MemPlace}
variable {u:Value}
theorem zfh {a:Addr}(h:W.cell? a=some u):a.spot=none/\a.block<W.heap.size:=by
 unfold World.cell? at h;split at h
 ·rename_i c _ _ f;split at h
  ·cases h
  ·rename_i g;refine ⟨by cases i:a.spot with|none=>rfl|some _=>simp [i] at g,?_⟩;rcases Nat.lt_or_ge a.block W.heap.size with b|e
   ·exact b
   ·rw [Array.getElem?_eq_none e] at f;cases f
 ·cases h
theorem Jr (b off k:Nat):(⟨b,off,none⟩:Addr).add k=⟨b,off+k,none⟩:=by
 by_cases h:k=0<;>simp [Addr.add,h]
variable {α:Type}
theorem zgx {β:Type}{f:α->Option β}:∀ {l:List α} {r:List β},l.mapM f=some r->r.length=l.length/\∀ k (c:k<l.length) (i:k<r.length),f l[k]=some r[k]
 |[],r,h=>by simp at h;subst h;exact ⟨rfl,fun k c=>absurd c (by simp)⟩
 |a::l,r,h=>by
  simp only [mapM_cons] at h;cases g:f a with
  |none=>rw [g] at h;simp at h
  |some b =>
   rw [g] at h;cases e:l.mapM f with
   |none=>rw [e] at h;simp at h
   |some s =>
    rw [e] at h;simp at h;subst h;obtain ⟨m,j⟩:=zgx e;refine ⟨by simp [m],fun k c i=>?_⟩;cases k with
    |zero=>exact g
    |succ k=>exact j k (by simpa using c) (by simpa using i)
theorem Wy {a:Addr}{n:Nat}{cs:List Value}(h:W.cells? 0 a n=some cs):cs.length=n/\∀ j,j<n->W.cell? (a.add j)=some (cs.getD j undef):=by
 unfold World.cells? at h;rw [if_pos (Nat.zero_le _)] at h;obtain ⟨c,b⟩:=zgx h;have e:cs.length=n:=by simpa using c
 refine ⟨e,fun j f=>?_⟩;have:=b j (by simpa using f) (by omega);rw [getElem_range] at this;rw [this];simp [getElem?_eq_getElem (show j<cs.length by omega)]
def R1 (W:World)(a:α->AV)(m:α)(cs:List Value):Prop:=cs.length=(a m).cells.length/\∀ j (b:j<(a m).cells.length),Rep W (fun _=>True) G0 ((a m).cells[j]) (cs.getD j undef)/\(cs.getD j undef).oneCell'=true
variable {a:α->AV}{sz:Nat}
theorem zoo {t e:TypeId}(N:Tryz.prog.underlying t=some (.slice e))(z:Tryz.prog.cellsOf e=sz)(O:0<sz)(M:Inhabited α)(g:∀ m,(a m).cells.length=sz)
  (each:∀ (n:Nat) (cs:List Value) (x:DataW H×List MemPlace),cs.length=sz->DataW.trod enc Tryz.prog W 0 (fun _=>true) true n e cs=some x->∃ m:α,R1 W a m cs)
  {n:Nat}  {x:DataW H×List MemPlace} (h:DataW.trod enc Tryz.prog W 0 (fun _=>true) true n t [u]=some x):∃ l:List α,Rep W (fun _=>True) G0 (.sl sz (l.map a)) u:=by
 rcases open_slice N h with ⟨h1,_⟩|⟨A,len,cap,m,L,D,Pl,h1,_,C,hm,y,_,J⟩
 ·simp only [List.cons.injEq,and_true] at h1;subst h1;exact ⟨[],.sl none 0 (fun _ _=>.bool true) (by simp) (fun k c=>absurd c (by simp)) (fun h=>absurd h (by simp)) (fun k c=>absurd c (by simp)) (fun _ _=>rfl)⟩
 ·simp only [List.cons.injEq,and_true] at h1;subst h1;simp only [if_true] at y;subst y;rw [z] at J;have every:∀ i,∃ q:α×List Value,i<len->W.cells? 0 (A.add (i*sz)) sz=some q.2/\R1 W a q.1 q.2:=fun i=>by
   by_cases hi:i<len
   ·obtain ⟨cs,K,Q⟩:=J i (by omega);obtain ⟨k,c⟩:=each L cs _ (Wy K).1 Q;exact ⟨(k,cs),fun _=>⟨K,c⟩⟩
   ·exact ⟨(M.default,[]),fun h=>absurd h hi⟩
  obtain ⟨f,F⟩:=Classical.axiomOfChoice every;have R:((range len).map fun i=>(f i).1).length=len:=by simp
  refine ⟨(range len).map fun i=>(f i).1,?_⟩;have e:len=(((range len).map fun i=>(f i).1).map a).length:=by simp
  have r:∀ k j,k<len->j<sz->W.cell? ((A.add (k*sz)).add j)=some ((f k).2.getD j undef):=fun k j c w=>(Wy (F k c).1).2 j w
  have:Rep W (fun _=>True) G0 (.sl sz (((range len).map fun i=>(f i).1).map a)) (.slice (some A) (((range len).map fun i=>(f i).1).map a).length m):=by
   refine .sl (some A) m (fun k j=>if k<len/\j<sz then (f k).2.getD j undef else .bool true) (by simpa using C) (fun k c=>?_) (fun G=>?_) (fun k c j w=>?_) (fun k j=>?_)
   ·simp only [getElem_map];exact g _
   ·have B:0<len:=by simpa using G
    have I:=zfh (r 0 0 B O);obtain ⟨b,off,sp⟩:=A;have P:sp=none:=by simpa [Addr.add] using I.1
    subst P;rw [Jr,Jr] at I;refine ⟨b,off,rfl,trivial,I.2,fun k j c w=>?_⟩;have o:k<len:=by simpa using c
    have:=r k j o w;rw [Jr,Jr] at this;rw [if_pos ⟨o,w⟩,<-this];congr 2;omega
   ·have o:k<len:=by simpa using c
    simp only [getElem_map,getElem_range] at w ⊢;have E:j<sz:=by rw [g] at w;exact w
    rw [if_pos ⟨o,E⟩];exact ((F k o).2.2 j w).1
   ·by_cases s:k<len/\j<sz
    ·rw [if_pos s];exact ((F k s.1).2.2 j (by rw [g];exact s.2)).2
    ·rw [if_neg s];rfl
  rw [<-e] at this;exact this
theorem Rep.one_sl {xs:List AV}(h:Rep W (fun _=>True) G0 (.sl sz xs) u):u.oneCell'=true:=by
 cases h;rfl
theorem znc {t e:TypeId}(f:Tryz.prog.underlying t=some (.slice e))(c:Tryz.prog.cellsOf e=sz)(k:0<sz)(g:Inhabited α)(b:∀ m,(a m).cells.length=sz)
  (each:∀ (n:Nat) (cs:List Value) (x:DataW H×List MemPlace),cs.length=sz->DataW.trod enc Tryz.prog W 0 (fun _=>true) true n e cs=some x->∃ m:α,R1 W a m cs)
  (i:Value.okWide Tryz.prog W .any base t v) (h:DataW.Trod enc Tryz.prog W 0 (fun _=>true) true t v d p):∃ l:List α,Rep W (fun _=>True) G0 (.sl sz (l.map a)) v:=by
 obtain ⟨A,len,cap,rfl⟩:=okWide_slice f i;obtain ⟨fuel,j⟩:=h;exact zoo f c k g b each j
theorem zyq {m:α}{cs:Array Value}{xs:List AV}(hm:a m=.agg xs)(h:R1 W a m cs.toList):Rep W (fun _=>True) G0 (a m) (.agg cs):=by
 obtain ⟨h1,b⟩:=h;rw [hm] at h1 b ⊢;have c:cs.size=xs.length:=by simpa [AV.cells] using h1
 have g:∀ i,cs.toList.getD i undef=cs.getD i undef:=fun i=>by
  by_cases hi:i<cs.size
  ·simp [Array.getD,hi]
  ·simp [Array.getD,hi]
 refine .agg _ c (fun i hi=>?_) (fun i hi=>?_)
 ·have:=(b i hi).1;rw [g] at this;exact this
 ·have:=(b i (show i<xs.length by rw [<-c];exact hi)).2;rw [g] at this;exact this
end
section
variable {H:Type} {enc:TypeId×Value->H} {W:World} {base:Nat} {v:Value} {d:DataW H} {p:List MemPlace}
def Bz (W:World)(xs:List AV)(cs:List Value):Prop:=cs.length=xs.length/\∀ j (b:j<xs.length),Rep W (fun _=>True) G0 (xs[j]) (cs.getD j undef)/\(cs.getD j undef).oneCell'=true
theorem Bz.one {a:AV}{c:Value}(h:Rep W (fun _=>True) G0 a c)(h1:c.oneCell'=true):Bz W [a] [c]:=by
 refine ⟨rfl,fun j e=>?_⟩;have b:j<1:=e;rcases j with _|j
 ·exact ⟨h,h1⟩
 ·omega
variable {cs:List Value}
theorem Bz.append {xs ys:List AV}{ds:List Value}(h1:Bz W xs cs)(c:Bz W ys ds):Bz W (xs++ys) (cs++ds):=by
 refine ⟨by rw [length_append,length_append,h1.1,c.1],fun j f=>?_⟩;by_cases h:j<xs.length
 ·have:=h1.2 j h;rw [getElem_append_left h];have e:(cs++ds).getD j undef=cs.getD j undef:=by
   simp only [getD_eq_getElem?_getD];rw [getElem?_append_left (by rw [h1.1];exact h)]
  rw [e];exact this
 ·have b:j-xs.length<ys.length:=by rw [length_append] at f;omega
  have:=c.2 (j-xs.length) b;rw [getElem_append_right (by omega)];have e:(cs++ds).getD j undef=ds.getD (j-xs.length) undef:=by
   simp only [getD_eq_getElem?_getD];rw [getElem?_append_right (by rw [h1.1];omega),h1.1]
  rw [e];exact this
theorem Bz.cut {o s:Nat}{xs ys:List AV}(h1:Bz W xs ((cs.drop o).take s))(b:Bz W ys (cs.drop (o+s))):Bz W (xs++ys) (cs.drop o):=by
 have:cs.drop o=(cs.drop o).take s++cs.drop (o+s):=by rw [<-drop_drop,take_append_drop]
 rw [this];exact h1.append b
theorem Bz.done {o:Nat}(h:cs.length<=o):Bz W [] (cs.drop o):=by
 rw [drop_eq_nil_of_le h];exact ⟨rfl,fun j b=>absurd b (by simp)⟩
theorem Bs {o s:Nat}(h:o+s<=cs.length):((cs.drop o).take s).length=s:=by rw [length_take,length_drop];omega
abbrev FO (enc:TypeId×Value->H)(W:World)(t:TypeId)(sz:Nat){α:Type}(e:α->List AV):Prop:=∀ (n:Nat) (cs:List Value) (x:DataW H×List MemPlace),cs.length=sz->DataW.trod enc Tryz.prog W 0 (fun _=>true) true n t cs=some x->∃ m:α,Bz W (e m) cs
variable {t:TypeId}
theorem Cn (b:Tryz.prog.underlying t=some (.int .i64)):FO enc W t 1 (fun z:Int=>[aI z]):=fun n cs x c h=>by
 obtain ⟨z,rfl,_⟩:=DataW.trod_int (k:=.i64) b h;exact ⟨z,.one (.int _ _) rfl⟩
theorem zyb (b:Tryz.prog.underlying t=some .string):FO enc W t 1 (fun z:ByteArray=>[AV.str z]):=fun n cs x c h=>by
 obtain ⟨z,rfl,_⟩:=DataW.trod_string b h;exact ⟨z,.one (.str _) rfl⟩
theorem zz7 {e:TypeId}{sz:Nat}{α:Type}{a:α->AV}(j:Tryz.prog.underlying t=some (.slice e))(g:Tryz.prog.cellsOf e=sz)(k:0<sz)(i:Inhabited α)(b:∀ m,(a m).cells.length=sz)
  (each:FO enc W e sz (fun m:α=>(a m).cells)):FO enc W t 1 (fun l:List α=>[AV.sl sz (l.map a)]):=fun n cs x f h=>by
 match cs,f with
 |[c],_ =>
  obtain ⟨l,f⟩:=zoo (a:=a) j g k i b each h;exact ⟨l,.one f f.one_sl⟩
theorem zw7 (b:Tryz.prog.underlying t=some (.int .i64)):FO enc W t 1 (fun z:Int=>(aI z).cells):=Cn b
theorem zr3 {α:Type}{a:α->AV}{e:TypeId}{sz:Nat}(i:Tryz.prog.underlying t=some (.slice e))(c:Tryz.prog.cellsOf e=sz)(j:0<sz)(f:Inhabited α)(b:∀ m,(a m).cells.length=sz)
  (each:FO enc W e sz (fun m:α=>(a m).cells)) (g:Value.okWide Tryz.prog W .any base t v) (h:DataW.Trod enc Tryz.prog W 0 (fun _=>true) true t v d p):∃ l:List α,Rep W (fun _=>True) G0 (.sl sz (l.map a)) v :=
 znc i c j f b each g h
end
section
variable {α β:Type}
theorem Au (x y:Option β):cnd true x y=x:=by unfold cnd;rfl
theorem B3 (x y:Option β):cnd false x y=y:=by unfold cnd;rfl
theorem A3 (p:Prop)[Decidable p](x y:Option β):cnd (decide p) x y=if p then x else y:=by
 by_cases h:p<;>simp [h,Au,B3]
theorem Af (b:Bool)(x y:Option β):cnd (!b) x y=cnd b y x:=by cases b<;>simp [Au,B3]
theorem Aq (b:Bool)(x y:Option β):cnd b x y=if b=true then x else y:=by cases b<;>simp [Au,B3]
theorem A1 (a:α)(k:α->Option β):bnd (some a) k=k a:=by unfold bnd;rfl
theorem Mg (a:α)(k:α->Option β):bndR (some a) k=k a:=by unfold bndR;rfl
theorem za8 (a:α)(k:α->Option β):bndC (some a) k=k a:=by unfold bndC;rfl
theorem Ar (x:Option β):reg x=x:=by unfold reg;rfl
theorem zu5 (i:Nat)(x:Option β):frz i x=x:=by unfold frz;rfl
variable {l:List α}
theorem Ab {i:Nat}(h:i<l.length)(k:α->Option β):idx l (i:Int) k=k l[i]:=by
 unfold idx;simp [h]
theorem zw3 {n:Int}(b:0<=n)(h:n.toNat<l.length)(k:α->Option β):idx l n k=k l[n.toNat]:=by
 unfold idx;simp [h,b]
theorem zmj {x:α}(k:α->Option β):idx (x::l) 0 k=k x:=by unfold idx;simp
variable {len:Nat}
theorem Da {i:Nat}(h:i<len)(k:Nat->Option β):nat (i:Int) len k=k i:=by
 unfold nat;simp [h]
theorem Jg {n:Int}(b:0<=n)(h:n.toNat<len)(k:Nat->Option β):nat n len k=k n.toNat:=by
 unfold nat;simp [h,b]
theorem V1 {m:Nat}(h:m<len)(x:Option β):ltx m len x=x:=by unfold ltx;simp [h]
theorem Cv {m:Nat}(h:m<l.length)(k:α->Option β):elt l m k=k l[m]:=by unfold elt;simp [h]
theorem Hn {m:Nat}(h:m<l.length)(f:α->α)(k:List α->Option β):stx l m f k=k (l.set m (f l[m])):=by unfold stx;simp [h]
theorem Bu {m:List α}{bytes:Nat}(h:l.length+m.length<=1000000000)(b:bytes<=100000)(k:List α->Option β):app l m bytes k=k (l++m):=by
 unfold app;have c:=Nat.mul_le_mul h b;rw [if_pos ⟨by omega,by omega⟩]
theorem zy6 {n:Nat}{bytes:Nat}(h:n<=1000000000)(b:bytes<=100000)(z:α)(k:List α->Option β):mak (n:Int) bytes z k=k (replicate n z):=by
 unfold mak;have c:=Nat.mul_le_mul b h;rw [if_pos ⟨by omega,by simp only [Int.toNat_natCast];omega,by simp only [Int.toNat_natCast];omega⟩];simp only [Int.toNat_natCast]
theorem Gm {a b:Nat}(h1:a<=b)(c:b<=l.length)(k:List α->Option β):sls l (a:Int) (b:Int) k=k ((l.take b).drop a):=by
 unfold sls;rw [if_pos (by omega)];simp
theorem zx3 {b:Int}(h:0<=b)(x:Option β):shx b x=x:=by unfold shx;simp [h]
theorem Ad (k:Nat)(h:k<=1000000000000):IntKind.wrap .i64 ((k:Int)+1)=((k+1:Nat):Int):=by rw [Cu _ (by omega)];omega
end
structure A5 where
 fKind:Int
 fNum:Int
 fText:ByteArray
deriving DecidableEq,Inhabited
def Aa (x:A5):AV:=.agg [aI (x.fKind),aI (x.fNum),.str (x.fText)]
abbrev Cb (x:A5):List AV:=[aI (x.fKind),aI (x.fNum),.str (x.fText)]
structure Av where
 fOp:Int
 fArgs:(List AV)
 fVar:Int
 fField:Int
 fKind:Int
 fValue:A5
deriving Inhabited
def Al (x:Av):AV:=.agg [aI (x.fOp),.sl 8 (x.fArgs.map idA),aI (x.fVar),aI (x.fField),aI (x.fKind),aI (x.fValue.fKind),aI (x.fValue.fNum),.str (x.fValue.fText)]
abbrev Ck (x:Av):List AV:=[aI (x.fOp),.sl 8 (x.fArgs.map idA),aI (x.fVar),aI (x.fField),aI (x.fKind),aI (x.fValue.fKind),aI (x.fValue.fNum),.str (x.fValue.fText)]
def C8:AV->Option Av |.agg [.int .i64 j,.sl 8 i,.int .i64 h,.int .i64 g,.int .i64 f,.int .i64 e,.int .i64 c,.str b]=>some ⟨j,i,h,g,f,⟨e,c,b⟩⟩ |_=>none
theorem Dn (a:AV)(y:Av)(h:C8 a=some y):a=Al y:=by
 unfold C8 at h;split at h
 ·injection h with h;subst h;simp [Al,aI,Qw]
 ·cases h
theorem W9 (y:Av):C8 (Al y)=some y:=by simp [C8,Al,aI,Qw]
def Kk (n:Nat)(b:Av->Int->Option (Int))(i:Int)(j:Av)(c:Int×Int)(d:Int->Option (Int))(e:(Int×Int)->Option (Int))(f:Bool):Option (Int):=cnd (f) (idxD C8 j.fArgs c.2 fun g=>bnd (b g i) fun h=>e ((IntKind.wrap .i64 (c.1+h)),(IntKind.wrap .i64 (c.2+1))))<|d c.1
def Ib (n:Nat)(b:Av->Int->Option (Int))(f:Int)(g:Av)(c:Int->Option (Int)):Nat->Int×Int->Option (Int) |0,_=>none |e+1,d=>jon (Kk n b f g d c (Ib n b f g c e))<|reg<|cnd (decide (d.2<((g.fArgs.map idA).length:Int))) (Kk n b f g d c (Ib n b f g c e) (decide (d.1<=f)))<|Kk n b f g d c (Ib n b f g c e) false
def G8:Nat->Av->Int->Option (Int) |0,_,_=>none |n+1,e,c=>Ib n (G8 n) c e (fun b=>some b) n (1,0)
def O3 (n:Nat)(b:Av->Option (Int))(h:Av)(d:Int->Option (Int)):Nat->Int×Int->Option (Int) |0,_=>none |e+1,c=>cnd (decide (c.2<((h.fArgs.map idA).length:Int))) (idxD C8 h.fArgs c.2 fun f=>bnd (b f) fun g=>(O3 n b h d e) ((max c.1 g),(IntKind.wrap .i64 (c.2+1))))<|d c.1
def G7:Nat->Av->Option (Int) |0,_=>none |n+1,c=>O3 n (G7 n) c (fun b=>some (IntKind.wrap .i64 (b+1))) n (0,0)
def F0 (n:Nat)(b:Bool):Option (Int):=cnd (b) (some 2)<|some (-1)
def G2 (n:Nat)(c:Int)(b:Bool):Option (Int):=cnd (b) (some 0)<|cnd (decide (c=12)) (some 1)<|jon (F0 n)<|reg<|cnd (decide (c=5)) (F0 n (decide (c=5)))<|reg<|cnd (decide (c=6)) (F0 n (decide (c=6)))<|reg<|cnd (decide (c=7)) (F0 n (decide (c=7)))<|reg<|cnd (decide (c=8)) (F0 n (decide (c=8)))<|reg<|cnd (decide (c=9)) (F0 n (decide (c=9)))<|reg<|cnd (decide (c=10)) (F0 n (decide (c=10)))<|F0 n (decide (c=11))
def S7 (n:Nat)(b:Int):Option (Int):=jon (G2 n b)<|reg<|cnd (decide (b=0)) (G2 n b (decide (b=0)))<|reg<|cnd (decide (b=1)) (G2 n b (decide (b=1)))<|reg<|cnd (decide (b=2)) (G2 n b (decide (b=2)))<|reg<|cnd (decide (b=3)) (G2 n b (decide (b=3)))<|G2 n b (decide (b=4))
def Ig (n:Nat)(b:Bool)(c:Bool):Option (Bool×Bool):=some (c,b)
def Ks (n:Nat)(c:Int)(b:Bool):Option (Bool×Bool):=jon (Ig n b)<|reg<|cnd (b) (Ig n b true)<|cnd (decide (c=2)) (Ig n b true)<|Ig n b (decide (c=3))
def Sd (n:Nat)(b:Int):Option (Bool×Bool):=jon (Ks n b)<|reg<|cnd (decide (b=1)) (Ks n b true)<|Ks n b (decide (b=4))
def H6 (n:Nat)(b:A5):Option (Int):=cnd (decide (b.fKind<0)) (some 1)<|cnd (decide (2<b.fKind)) (some 1)<|cnd (decide (b.fKind=2)) (cnd (!decide (b.fNum=0)) (some 3)<|cnd (decide (64<((b.fText.size:Nat):Int))) (some 13)<|some 0)<|cnd (!(b.fText.toList == ByteArray.empty.toList)) (some 3)<|cnd (decide (b.fKind=1)) (cnd (decide (b.fNum<0)) (some 2)<|cnd (decide (1<b.fNum)) (some 2)<|cnd (decide (b.fNum<(-1099511627776))) (some 2)<|cnd (decide (1099511627776<b.fNum)) (some 2)<|some 0)<|cnd (decide (b.fNum<(-1099511627776))) (some 2)<|cnd (decide (1099511627776<b.fNum)) (some 2)<|some 0
def Gy (n:Nat)(b:Bool):Option (Bool):=some b
def Ld (n:Nat)(b:Int)(c:A5):Option (Bool):=jon (Gy n)<|reg<|cnd (decide (c.fKind=0)) (Gy n true)<|cnd (decide (b=0)) (Gy n true)<|cnd (decide (b=4)) (Gy n true)<|Gy n (decide (b=5))
def C6 (n:Nat)(b:Bool):Option (Int):=cnd (b) (some 3)<|some 0
def H3 (n:Nat)(e:Av)(f:Bool×Bool)(b:Bool)(c:Bool):Option (Int):=cnd (c) (some 9)<|jon (C6 n)<|reg<|cnd (!(f.1)) (cnd (!decide (e.fVar=0)) (C6 n true)<|cnd (!(f.2)) (cnd (!decide (e.fField=0)) (C6 n true)<|cnd (!(decide (e.fOp=4))) (cnd (!decide (e.fKind=0)) (C6 n true)<|cnd (!(b)) (C6 n (!(decide (e.fValue.fKind=0) && (decide (e.fValue.fNum=0) && ((e.fValue.fText.toList == ByteArray.empty.toList) && true)))))<|C6 n false)<|cnd (!(b)) (C6 n (!(decide (e.fValue.fKind=0) && (decide (e.fValue.fNum=0) && ((e.fValue.fText.toList == ByteArray.empty.toList) && true)))))<|C6 n false)<|cnd (!(decide (e.fOp=4))) (cnd (!decide (e.fKind=0)) (C6 n true)<|cnd (!(b)) (C6 n (!(decide (e.fValue.fKind=0) && (decide (e.fValue.fNum=0) && ((e.fValue.fText.toList == ByteArray.empty.toList) && true)))))<|C6 n false)<|cnd (!(b)) (C6 n (!(decide (e.fValue.fKind=0) && (decide (e.fValue.fNum=0) && ((e.fValue.fText.toList == ByteArray.empty.toList) && true)))))<|C6 n false)<|cnd (!(f.2)) (cnd (!decide (e.fField=0)) (C6 n true)<|cnd (!(decide (e.fOp=4))) (cnd (!decide (e.fKind=0)) (C6 n true)<|cnd (!(b)) (C6 n (!(decide (e.fValue.fKind=0) && (decide (e.fValue.fNum=0) && ((e.fValue.fText.toList == ByteArray.empty.toList) && true)))))<|C6 n false)<|cnd (!(b)) (C6 n (!(decide (e.fValue.fKind=0) && (decide (e.fValue.fNum=0) && ((e.fValue.fText.toList == ByteArray.empty.toList) && true)))))<|C6 n false)<|cnd (!(decide (e.fOp=4))) (cnd (!decide (e.fKind=0)) (C6 n true)<|cnd (!(b)) (C6 n (!(decide (e.fValue.fKind=0) && (decide (e.fValue.fNum=0) && ((e.fValue.fText.toList == ByteArray.empty.toList) && true)))))<|C6 n false)<|cnd (!(b)) (C6 n (!(decide (e.fValue.fKind=0) && (decide (e.fValue.fNum=0) && ((e.fValue.fText.toList == ByteArray.empty.toList) && true)))))<|C6 n false
def Kt (n:Nat)(e:Av)(f:Bool×Bool)(b:Bool)(_:Unit):Option (Int):=jon (H3 n e f b)<|reg<|cnd (decide (e.fOp=4)) (bnd (Ld n e.fKind e.fValue) fun c=>cnd (!(c)) (H3 n e f b true)<|cnd (decide (e.fKind=1)) (H3 n e f b (!(decide (e.fValue.fKind=0) && (decide (e.fValue.fNum=0) && ((e.fValue.fText.toList == ByteArray.empty.toList) && true)))))<|H3 n e f b false)<|H3 n e f b false
def Ku (n:Nat)(e:Av)(f:Bool×Bool)(b:Bool):Option (Int):=jon (Kt n e f b)<|reg<|cnd (b) (bnd (H6 n e.fValue) fun c=>cnd (!decide (c=0)) (some c)<|Kt n e f b ())<|Kt n e f b ()
def Ih (n:Nat)(c:Av)(e:Bool×Bool)(b:Bool):Option (Int):=cnd (b) (some 1)<|jon (Ku n c e)<|reg<|cnd (decide (c.fOp=4)) (Ku n c e true)<|Ku n c e (decide (c.fOp=0))
def Ej (n:Nat)(c:Av)(e:Bool×Bool)(b:Bool):Option (Int):=cnd (b) (some 2)<|jon (Ih n c e)<|reg<|cnd (decide (c.fOp=4)) (cnd (decide (c.fKind<1)) (Ih n c e true)<|Ih n c e (decide (5<c.fKind)))<|Ih n c e false
def Se (n:Nat)(b:Av):Option (Int):=bnd (S7 n b.fOp) fun e=>cnd (decide (e<0)) (some 1)<|cnd (!decide (((b.fArgs.map idA).length:Int)=e)) (some 15)<|bnd (Sd n b.fOp) fun c=>jon (Ej n b c)<|reg<|cnd (c.1) (cnd (decide (b.fVar<0)) (Ej n b c true)<|cnd (decide (16<=b.fVar)) (Ej n b c true)<|cnd (c.2) (cnd (decide (b.fField<0)) (Ej n b c true)<|Ej n b c (decide (8<=b.fField)))<|Ej n b c false)<|cnd (c.2) (cnd (decide (b.fField<0)) (Ej n b c true)<|Ej n b c (decide (8<=b.fField)))<|Ej n b c false
def O2 (n:Nat)(b:Av->Option (Int))(h:Av)(c:Option (Int)):Nat->Int->Option (Int) |0,_=>none |e+1,d=>cnd (decide (d<((h.fArgs.map idA).length:Int))) (idxD C8 h.fArgs d fun g=>bnd (b g) fun f=>cnd (!decide (f=0)) (some f)<|(O2 n b h c e) (IntKind.wrap .i64 (d+1)))<|c
def H5:Nat->Av->Option (Int) |0,_=>none |n+1,c=>bnd (Se n c) fun b=>cnd (!decide (b=0)) (some b)<|O2 n (H5 n) c (some 0) n 0
def G9 (n:Nat)(b:Av):Option (Int):=bnd (G8 n b 64) fun f=>cnd (decide (64<f)) (some 5)<|bnd (G7 n b) fun e=>cnd (decide (12<e)) (some 12)<|bnd (H5 n b) fun c=>some c
structure B2 where
 fScope:Int
 fType:Int
 fVar:Int
 fCond:Av
deriving Inhabited
def B0 (x:B2):AV:=.agg [aI (x.fScope),aI (x.fType),aI (x.fVar),aI (x.fCond.fOp),.sl 8 (x.fCond.fArgs.map idA),aI (x.fCond.fVar),aI (x.fCond.fField),aI (x.fCond.fKind),aI (x.fCond.fValue.fKind),aI (x.fCond.fValue.fNum),.str (x.fCond.fValue.fText)]
abbrev U3 (x:B2):List AV:=[aI (x.fScope),aI (x.fType),aI (x.fVar),aI (x.fCond.fOp),.sl 8 (x.fCond.fArgs.map idA),aI (x.fCond.fVar),aI (x.fCond.fField),aI (x.fCond.fKind),aI (x.fCond.fValue.fKind),aI (x.fCond.fValue.fNum),.str (x.fCond.fValue.fText)]
structure Cp where
 fGuards:(List B2)
deriving Inhabited
def B6 (x:Cp):AV:=.agg [.sl 11 (x.fGuards.map B0)]
structure Bm where
 fScope:Int
 fSpan:Int
deriving DecidableEq,Inhabited
def Bl (x:Bm):AV:=.agg [aI (x.fScope),aI (x.fSpan)]
abbrev Wp (x:Bm):List AV:=[aI (x.fScope),aI (x.fSpan)]
structure Am where
 fFrom:Int
 fTo:Int
 fVar:Int
 fType:Int
 fCond:Av
 fOpens:(List Int)
 fCloses:(List Int)
 fChecks:(List AV)
 fLimits:(List Bm)
 fInside:(List Int)
deriving Inhabited
def Ax (x:Am):AV:=.agg [aI (x.fFrom),aI (x.fTo),aI (x.fVar),aI (x.fType),aI (x.fCond.fOp),.sl 8 (x.fCond.fArgs.map idA),aI (x.fCond.fVar),aI (x.fCond.fField),aI (x.fCond.fKind),aI (x.fCond.fValue.fKind),aI (x.fCond.fValue.fNum),.str (x.fCond.fValue.fText),.sl 1 (x.fOpens.map aI),.sl 1 (x.fCloses.map aI),.sl 8 (x.fChecks.map idA),.sl 2 (x.fLimits.map Bl),.sl 1 (x.fInside.map aI)]
abbrev C4 (x:Am):List AV:=[aI (x.fFrom),aI (x.fTo),aI (x.fVar),aI (x.fType),aI (x.fCond.fOp),.sl 8 (x.fCond.fArgs.map idA),aI (x.fCond.fVar),aI (x.fCond.fField),aI (x.fCond.fKind),aI (x.fCond.fValue.fKind),aI (x.fCond.fValue.fNum),.str (x.fCond.fValue.fText),.sl 1 (x.fOpens.map aI),.sl 1 (x.fCloses.map aI),.sl 8 (x.fChecks.map idA),.sl 2 (x.fLimits.map Bl),.sl 1 (x.fInside.map aI)]
structure Ao where
 fVars:Int
 fScopes:Int
 fStates:(List Cp)
 fEdges:(List Am)
deriving Inhabited
def C1 (x:Ao):AV:=.agg [aI (x.fVars),aI (x.fScopes),.sl 1 (x.fStates.map B6),.sl 17 (x.fEdges.map Ax)]
abbrev Bf (x:Ao):List AV:=[aI (x.fVars),aI (x.fScopes),.sl 1 (x.fStates.map B6),.sl 17 (x.fEdges.map Ax)]
def L0 (n:Nat)(b:Bool):Option (Bool):=some b
def De (n:Nat)(b:Int)(c:Int):Option (Bool):=jon (L0 n)<|reg<|cnd (decide (b<0)) (L0 n true)<|L0 n (decide (c<b))
def Nm (n:Nat)(h:(List B2))(i:Ao)(c:Int)(b:Option (Int)):Nat->Int->Option (Int) |0,_=>none |e+1,d=>cnd (decide (d<c)) (idx h d fun f=>idx h c fun g=>cnd (decide (f.fScope=g.fScope)) (some 7)<|(Nm n h i c b e) (IntKind.wrap .i64 (d+1)))<|b
def I6 (n:Nat)(g:(List B2))(h:Ao)(b:Int)(c:Int->Option (Int))(e:Bool):Option (Int):=cnd (e) (some 2)<|Nm n g h b (idx g b fun f=>bnd (G9 n f.fCond) fun d=>cnd (!decide (d=0)) (some d)<|c (IntKind.wrap .i64 (b+1))) n 0
def Fy (n:Nat)(i:(List B2))(m:Ao)(b:Option (Int)):Nat->Int->Option (Int) |0,_=>none |d+1,c=>cnd (decide (c<((i.map B0).length:Int))) (jon (I6 n i m c (Fy n i m b d))<|reg<|idx i c fun e=>bnd (De n e.fScope (IntKind.wrap .i64 (m.fScopes-1))) fun f=>cnd (f) (I6 n i m c (Fy n i m b d) true)<|idx i c fun g=>bnd (De n g.fType 15) fun h=>cnd (h) (I6 n i m c (Fy n i m b d) true)<|idx i c fun j=>bnd (De n j.fVar (IntKind.wrap .i64 (m.fVars-1))) fun k=>I6 n i m c (Fy n i m b d) k)<|b
def Rz (n:Nat)(c:Ao)(b:(List B2)):Option (Int):=cnd (decide (64<((b.map B0).length:Int))) (some 5)<|Fy n b c (some 0) n 0
def Nl (n:Nat)(i:Int)(h:(List Int))(c:Int)(b:Option (Int)):Nat->Int->Option (Int) |0,_=>none |e+1,d=>cnd (decide (d<c)) (idx h d fun f=>idx h c fun g=>cnd (decide (f=g)) (some 7)<|(Nl n i h c b e) (IntKind.wrap .i64 (d+1)))<|b
def K9 (n:Nat)(h:Int)(g:(List Int))(c:Option (Int)):Nat->Int->Option (Int) |0,_=>none |d+1,b=>cnd (decide (b<((g.map aI).length:Int))) (idx g b fun e=>bnd (De n e (IntKind.wrap .i64 (h-1))) fun f=>cnd (f) (some 2)<|Nl n h g b ((K9 n h g c d) (IntKind.wrap .i64 (b+1))) n 0)<|c
def Ot (n:Nat)(c:(List Int))(b:Int):Option (Int):=K9 n b c (some 0) n 0
def Kg (n:Nat)(g:Am)(b:Option (Int)):Nat->Int->Option (Int) |0,_=>none |d+1,c=>cnd (decide (c<((g.fLimits.map Bl).length:Int))) (idx g.fLimits c fun e=>bnd (De n e.fSpan 1099511627776) fun f=>cnd (f) (some 2)<|(Kg n g b d) (IntKind.wrap .i64 (c+1)))<|b
def Gw (n:Nat)(h:Am)(i:Ao)(b:(List Int))(c:Option (Int)):Nat->Int->Option (Int) |0,_=>none |f+1,d=>cnd (decide (d<4)) (idx ([h.fOpens,h.fCloses,h.fInside,b]:List (List Int)) d fun g=>bnd (Ot n g i.fScopes) fun e=>cnd (!decide (e=0)) (some e)<|(Gw n h i b c f) (IntKind.wrap .i64 (d+1)))<|c
def Ny (n:Nat)(g:Am)(h:Ao)(c:(List Int)->Option (Int)):Nat->Int×(List Int)->Option (Int) |0,_=>none |d+1,b=>cnd (decide (b.1<((g.fLimits.map Bl).length:Int))) (idx g.fLimits b.1 fun e=>app b.2 [e.fScope] 8 fun f=>(Ny n g h c d) ((IntKind.wrap .i64 (b.1+1)),f))<|c b.2
def P4 (n:Nat)(e:Ao)(c:Am):Option (Int):=Ny n c e (fun b=>frz 7026<|reg<|Gw n c e b (Kg n c (some 0) n 0) n 0) n (0,[])
def Oc (n:Nat)(g:Am)(h:Ao)(b:Option (Int)):Nat->Int->Option (Int) |0,_=>none |d+1,c=>cnd (decide (c<((g.fChecks.map idA).length:Int))) (idxD C8 g.fChecks c fun f=>bnd (G9 n f) fun e=>cnd (!decide (e=0)) (some e)<|(Oc n g h b d) (IntKind.wrap .i64 (c+1)))<|b
def E6 (n:Nat)(h:Int)(e:Am)(g:Ao)(b:Bool):Option (Int):=cnd (b) (some 2)<|cnd (decide (e.fFrom<h)) (some 14)<|bnd (G9 n e.fCond) fun f=>cnd (!decide (f=0)) (some f)<|cnd (decide (64<((e.fChecks.map idA).length:Int))) (some 5)<|Oc n e g (bnd (P4 n g e) fun c=>some c) n 0
def Sb (n:Nat)(i:Ao)(h:Am)(j:Int):Option (Int):=jon (E6 n j h i)<|reg<|bnd (De n h.fFrom (IntKind.wrap .i64 (((i.fStates.map B6).length:Int)-1))) fun b=>cnd (b) (E6 n j h i true)<|cnd (!decide (h.fTo=(-1))) (bnd (De n h.fTo (IntKind.wrap .i64 (((i.fStates.map B6).length:Int)-1))) fun c=>cnd (c) (E6 n j h i true)<|bnd (De n h.fVar (IntKind.wrap .i64 (i.fVars-1))) fun d=>cnd (d) (E6 n j h i true)<|bnd (De n h.fType 15) fun e=>E6 n j h i e)<|bnd (De n h.fVar (IntKind.wrap .i64 (i.fVars-1))) fun f=>cnd (f) (E6 n j h i true)<|bnd (De n h.fType 15) fun g=>E6 n j h i g
def Nz (n:Nat)(h:Ao)(c:Option (Int)):Nat->Int×Int->Option (Int) |0,_=>none |d+1,b=>cnd (decide (b.2<((h.fEdges.map Ax).length:Int))) (idx h.fEdges b.2 fun f=>bnd (Sb n h f b.1) fun e=>cnd (!decide (e=0)) (some e)<|idx h.fEdges b.2 fun g=>(Nz n h c d) (g.fFrom,(IntKind.wrap .i64 (b.2+1))))<|c
def O0 (n:Nat)(g:Ao)(b:Option (Int)):Nat->Int->Option (Int) |0,_=>none |d+1,c=>cnd (decide (c<((g.fStates.map B6).length:Int))) (idx g.fStates c fun f=>bnd (Rz n g f.fGuards) fun e=>cnd (!decide (e=0)) (some e)<|(O0 n g b d) (IntKind.wrap .i64 (c+1)))<|b
def Fz (n:Nat)(c:Ao)(b:Bool):Option (Int):=cnd (b) (some 5)<|O0 n c (Nz n c (some 0) n (0,0)) n 0
def Gx (n:Nat)(c:Ao)(b:Bool):Option (Int):=cnd (b) (some 2)<|jon (Fz n c)<|reg<|cnd (decide (((c.fStates.map B6).length:Int)<1)) (Fz n c true)<|cnd (decide (256<((c.fStates.map B6).length:Int))) (Fz n c true)<|Fz n c (decide (2048<((c.fEdges.map Ax).length:Int)))
def Lb (n:Nat)(e:Ao):Option (Int):=jon (Gx n e)<|reg<|bnd (De n e.fVars 16) fun b=>cnd (b) (Gx n e true)<|bnd (De n e.fScopes 64) fun c=>Gx n e c
def Q6 (n:Nat)(b:Av->Option (Int×Int))(h:Av)(d:Int->Int->Option (Int×Int)):Nat->Int×Int×Int->Option (Int×Int) |0,_=>none |e+1,c=>cnd (decide (c.2.2<((h.fArgs.map idA).length:Int))) (idxD C8 h.fArgs c.2.2 fun g=>bnd (b g) fun f=>(Q6 n b h d e) ((IntKind.wrap .i64 (c.1+f.1)),(max c.2.1 f.2),(IntKind.wrap .i64 (c.2.2+1))))<|d c.1 c.2.1
def Hh:Nat->Av->Option (Int×Int) |0,_=>none |n+1,e=>Q6 n (Hh n) e (fun b c=>some (b,(IntKind.wrap .i64 (c+1)))) n (1,0,0)
def Lz (n:Nat)(c:Int)(b:Bool):Option (Int×Bool):=cnd (b) (some (0,false))<|cnd (decide (c<5)) (some (0,true))<|cnd (decide (c=12)) (some (1,true))<|some (2,true)
def U1 (n:Nat)(b:Int):Option (Int×Bool):=jon (Lz n b)<|reg<|cnd (decide (b<0)) (Lz n b true)<|Lz n b (decide (12<b))
def M2 (n:Nat)(b:Bool):Option (Bool×Bool):=cnd (b) (some (true,false))<|some (false,false)
def M3 (n:Nat)(c:Int)(b:Bool):Option (Bool×Bool):=cnd (b) (some (true,true))<|jon (M2 n)<|reg<|cnd (decide (c=2)) (M2 n (decide (c=2)))<|M2 n (decide (c=3))
def U5 (n:Nat)(b:Int):Option (Bool×Bool):=jon (M3 n b)<|reg<|cnd (decide (b=1)) (M3 n b (decide (b=1)))<|M3 n b (decide (b=4))
def M6 (n:Nat)(b:A5):Option (Int):=cnd (decide (b.fKind=0)) (cnd (decide (b.fNum<(-1099511627776))) (some 2)<|cnd (decide (1099511627776<b.fNum)) (some 2)<|cnd (decide (b.fKind=1)) (cnd (!decide (b.fNum=0)) (cnd (!decide (b.fNum=1)) (some 2)<|cnd (decide (64<((b.fText.size:Nat):Int))) (some 13)<|some 0)<|cnd (decide (64<((b.fText.size:Nat):Int))) (some 13)<|some 0)<|cnd (decide (64<((b.fText.size:Nat):Int))) (some 13)<|some 0)<|cnd (decide (b.fKind=1)) (cnd (!decide (b.fNum=0)) (cnd (!decide (b.fNum=1)) (some 2)<|cnd (decide (64<((b.fText.size:Nat):Int))) (some 13)<|some 0)<|cnd (decide (64<((b.fText.size:Nat):Int))) (some 13)<|some 0)<|cnd (decide (64<((b.fText.size:Nat):Int))) (some 13)<|some 0
def Hd (n:Nat)(b:A5):Option (Int):=cnd (decide (b.fKind=0)) (cnd (decide (b.fKind=0)) (cnd (!(b.fText.toList == ByteArray.empty.toList)) (some 3)<|bnd (M6 n b) fun g=>some g)<|cnd (decide (b.fKind=2)) (cnd (!decide (b.fNum=0)) (some 3)<|bnd (M6 n b) fun f=>some f)<|some 1)<|cnd (decide (b.fKind=1)) (cnd (!(b.fText.toList == ByteArray.empty.toList)) (some 3)<|bnd (M6 n b) fun e=>some e)<|cnd (decide (b.fKind=2)) (cnd (!decide (b.fNum=0)) (some 3)<|bnd (M6 n b) fun c=>some c)<|some 1
def J0 (n:Nat)(b:Bool):Option (Bool):=some b
def U0 (n:Nat)(b:Int)(c:A5):Option (Bool):=jon (J0 n)<|reg<|cnd (decide (c.fKind=0)) (J0 n true)<|cnd (decide (b=4)) (J0 n true)<|J0 n (decide (b=5))
def Ha (n:Nat)(b:Bool):Option (Int):=cnd (b) (some 9)<|some 0
def Th (n:Nat)(b:Av):Option (Int):=bnd (Hd n b.fValue) fun c=>cnd (!decide (c=0)) (some c)<|jon (Ha n)<|reg<|cnd (decide (b.fOp=4)) (bnd (U0 n b.fKind b.fValue) fun e=>cnd (!(e)) (Ha n true)<|cnd (decide (b.fKind=1)) (Ha n (!(decide (b.fValue.fKind=0) && (decide (b.fValue.fNum=0) && ((b.fValue.fText.toList == ByteArray.empty.toList) && true)))))<|Ha n false)<|Ha n false
def C7 (n:Nat)(b:Bool):Option (Int):=cnd (b) (some 3)<|some 0
def M4 (n:Nat)(c:Av)(e:Bool×Bool)(b:Bool)(_:Unit):Option (Int):=jon (C7 n)<|reg<|cnd (!(e.1)) (cnd (!decide (c.fVar=0)) (C7 n true)<|cnd (!(e.2)) (cnd (!decide (c.fField=0)) (C7 n true)<|cnd (!(decide (c.fOp=4))) (cnd (!decide (c.fKind=0)) (C7 n true)<|cnd (!(b)) (C7 n (!(decide (c.fValue.fKind=0) && (decide (c.fValue.fNum=0) && ((c.fValue.fText.toList == ByteArray.empty.toList) && true)))))<|C7 n false)<|cnd (!(b)) (C7 n (!(decide (c.fValue.fKind=0) && (decide (c.fValue.fNum=0) && ((c.fValue.fText.toList == ByteArray.empty.toList) && true)))))<|C7 n false)<|cnd (!(decide (c.fOp=4))) (cnd (!decide (c.fKind=0)) (C7 n true)<|cnd (!(b)) (C7 n (!(decide (c.fValue.fKind=0) && (decide (c.fValue.fNum=0) && ((c.fValue.fText.toList == ByteArray.empty.toList) && true)))))<|C7 n false)<|cnd (!(b)) (C7 n (!(decide (c.fValue.fKind=0) && (decide (c.fValue.fNum=0) && ((c.fValue.fText.toList == ByteArray.empty.toList) && true)))))<|C7 n false)<|cnd (!(e.2)) (cnd (!decide (c.fField=0)) (C7 n true)<|cnd (!(decide (c.fOp=4))) (cnd (!decide (c.fKind=0)) (C7 n true)<|cnd (!(b)) (C7 n (!(decide (c.fValue.fKind=0) && (decide (c.fValue.fNum=0) && ((c.fValue.fText.toList == ByteArray.empty.toList) && true)))))<|C7 n false)<|cnd (!(b)) (C7 n (!(decide (c.fValue.fKind=0) && (decide (c.fValue.fNum=0) && ((c.fValue.fText.toList == ByteArray.empty.toList) && true)))))<|C7 n false)<|cnd (!(decide (c.fOp=4))) (cnd (!decide (c.fKind=0)) (C7 n true)<|cnd (!(b)) (C7 n (!(decide (c.fValue.fKind=0) && (decide (c.fValue.fNum=0) && ((c.fValue.fText.toList == ByteArray.empty.toList) && true)))))<|C7 n false)<|cnd (!(b)) (C7 n (!(decide (c.fValue.fKind=0) && (decide (c.fValue.fNum=0) && ((c.fValue.fText.toList == ByteArray.empty.toList) && true)))))<|C7 n false
def M5 (n:Nat)(c:Av)(e:Bool×Bool)(b:Bool):Option (Int):=jon (M4 n c e b)<|reg<|cnd (b) (bnd (Th n c) fun f=>cnd (!decide (f=0)) (some f)<|M4 n c e b ())<|M4 n c e b ()
def J1 (n:Nat)(c:Av)(e:Bool×Bool)(b:Bool):Option (Int):=cnd (b) (some 1)<|jon (M5 n c e)<|reg<|cnd (decide (c.fOp=4)) (M5 n c e true)<|M5 n c e (decide (c.fOp=0))
def Ep (n:Nat)(c:Av)(e:Bool×Bool)(b:Bool):Option (Int):=cnd (b) (some 2)<|jon (J1 n c e)<|reg<|cnd (decide (c.fOp=4)) (cnd (decide (c.fKind<1)) (J1 n c e true)<|J1 n c e (decide (5<c.fKind)))<|J1 n c e false
def U6 (n:Nat)(b:Av):Option (Int):=bnd (U1 n b.fOp) fun e=>cnd (!(e.2)) (some 1)<|cnd (!decide (((b.fArgs.map idA).length:Int)=e.1)) (some 15)<|bnd (U5 n b.fOp) fun c=>jon (Ep n b c)<|reg<|cnd (c.1) (cnd (decide (b.fVar<0)) (Ep n b c true)<|cnd (decide (16<=b.fVar)) (Ep n b c true)<|cnd (c.2) (cnd (decide (b.fField<0)) (Ep n b c true)<|Ep n b c (decide (8<=b.fField)))<|Ep n b c false)<|cnd (c.2) (cnd (decide (b.fField<0)) (Ep n b c true)<|Ep n b c (decide (8<=b.fField)))<|Ep n b c false
def Q3 (n:Nat)(b:Av->Option (Int))(h:Av)(c:Option (Int)):Nat->Int->Option (Int) |0,_=>none |e+1,d=>cnd (decide (d<((h.fArgs.map idA).length:Int))) (idxD C8 h.fArgs d fun g=>bnd (b g) fun f=>cnd (!decide (f=0)) (some f)<|(Q3 n b h c e) (IntKind.wrap .i64 (d+1)))<|c
def Hf:Nat->Av->Option (Int) |0,_=>none |n+1,c=>bnd (U6 n c) fun b=>cnd (!decide (b=0)) (some b)<|Q3 n (Hf n) c (some 0) n 0
def Hg (n:Nat)(c:Av):Option (Int):=bnd (Hh n c) fun b=>cnd (decide (64<b.1)) (some 5)<|cnd (decide (12<b.2)) (some 12)<|bnd (Hf n c) fun e=>some e
def Lf (n:Nat)(b:Bool):Option (Bool):=some b
def F8 (n:Nat)(b:Int)(c:Int):Option (Bool):=jon (Lf n)<|reg<|cnd (decide (0<=b)) (Lf n (decide (b<c)))<|Lf n false
def Pn (n:Nat)(c:B2)(b:B2):Option (Bool):=some (decide (c.fScope=b.fScope))
def Pa (n:Nat)(d:B2)(h:(List B2))(c:Option (Int)):Nat->Int->Option (Int) |0,_=>none |e+1,b=>cnd (decide (b<((h.map B0).length:Int))) (idx h b fun f=>bnd (Pn n f d) fun g=>cnd (g) (some b)<|(Pa n d h c e) (IntKind.wrap .i64 (b+1)))<|c
def T7 (n:Nat)(c:(List B2))(b:B2):Option (Int):=Pa n b c (some (-1)) n 0
def Pb (n:Nat)(e:(List B2))(b:B2):Option (Bool):=bnd (T7 n e b) fun c=>some (decide (0<=c))
def H7 (n:Nat)(i:(List B2))(j:Ao)(b:Int)(c:Int->Option (Int))(d:B2)(f:Bool):Option (Int):=cnd (f) (some 2)<|sls i 0 b fun g=>bnd (Pb n g d) fun h=>cnd (h) (some 7)<|bnd (Hg n d.fCond) fun e=>cnd (!decide (e=0)) (some e)<|c (IntKind.wrap .i64 (b+1))
def E8 (n:Nat)(i:(List B2))(j:Ao)(b:Option (Int)):Nat->Int->Option (Int) |0,_=>none |d+1,c=>cnd (decide (c<((i.map B0).length:Int))) (idx i c fun e=>jon (H7 n i j c (E8 n i j b d) e)<|reg<|bnd (F8 n e.fScope j.fScopes) fun f=>cnd (!(f)) (H7 n i j c (E8 n i j b d) e true)<|bnd (F8 n e.fType 16) fun g=>cnd (!(g)) (H7 n i j c (E8 n i j b d) e true)<|bnd (F8 n e.fVar j.fVars) fun h=>H7 n i j c (E8 n i j b d) e !(h))<|b
def Fh (n:Nat)(c:Ao)(b:(List B2)):Option (Int):=cnd (decide (64<((b.map B0).length:Int))) (some 5)<|E8 n b c (some 0) n 0
def P3 (n:Nat)(g:(List Bm))(c:(List Int)->Option ((List Int))):Nat->Int×(List Int)->Option ((List Int)) |0,_=>none |d+1,b=>cnd (decide (b.1<((g.map Bl).length:Int))) (idx g b.1 fun e=>app b.2 [e.fScope] 8 fun f=>(P3 n g c d) ((IntKind.wrap .i64 (b.1+1)),f))<|c b.2
def Pq (n:Nat)(c:(List Bm)):Option ((List Int)):=P3 n c (fun b=>some b) n (0,[])
def Pu (n:Nat)(g:Int)(f:(List Int))(c:Option (Int)):Nat->Int->Option (Int) |0,_=>none |d+1,b=>cnd (decide (b<((f.map aI).length:Int))) (idx f b fun e=>cnd (decide (g=e)) (some b)<|(Pu n g f c d) (IntKind.wrap .i64 (b+1)))<|c
def Wd (n:Nat)(c:(List Int))(b:Int):Option (Int):=Pu n b c (some (-1)) n 0
def Hc (n:Nat)(e:(List Int))(c:Int):Option (Bool):=bnd (Wd n e c) fun b=>some (decide (0<=b))
def Ek (n:Nat)(m:(List (List Int)))(i:Ao)(g:Int)(d:(List Int))(c:Option (Int)):Nat->Int->Option (Int) |0,_=>none |e+1,b=>cnd (decide (b<((d.map aI).length:Int))) (idx d b fun f=>bnd (F8 n f i.fScopes) fun h=>cnd (!(h)) (some 2)<|sls d 0 b fun j=>bnd (Hc n j f) fun k=>cnd (k) (some 7)<|(Ek n m i g d c e) (IntKind.wrap .i64 (b+1)))<|c
def F5 (n:Nat)(f:(List (List Int)))(g:Ao)(c:Option (Int)):Nat->Int->Option (Int) |0,_=>none |d+1,b=>cnd (decide (b<(((List.map (fun q=>AV.sl 1 (List.map aI q)) (f)).length:Nat):Int))) (idx f b fun e=>Ek n f g b e ((F5 n f g c d) (IntKind.wrap .i64 (b+1))) n 0)<|c
def Iw (n:Nat)(c:Ao)(b:(List (List Int))):Option (Int):=F5 n b c (some 0) n 0
def Lg (n:Nat)(b:Bool):Option (Bool):=some b
def Lq (n:Nat)(b:Bm):Option (Bool):=jon (Lg n)<|reg<|cnd (decide (b.fSpan<0)) (Lg n true)<|Lg n (decide (1099511627776<b.fSpan))
def Nn (n:Nat)(g:(List Bm))(c:Option (Int)):Nat->Int->Option (Int) |0,_=>none |d+1,b=>cnd (decide (b<((g.map Bl).length:Int))) (idx g b fun e=>bnd (Lq n e) fun f=>cnd (f) (some b)<|(Nn n g c d) (IntKind.wrap .i64 (b+1)))<|c
def S2 (n:Nat)(b:(List Bm)):Option (Int):=Nn n b (some (-1)) n 0
def Nq (n:Nat)(c:(List Bm)):Option (Bool):=bnd (S2 n c) fun b=>some (decide (0<=b))
def Gb (n:Nat)(g:Am)(h:Ao)(b:Option (Int)):Nat->Int->Option (Int) |0,_=>none |d+1,c=>cnd (decide (c<((g.fChecks.map idA).length:Int))) (idxD C8 g.fChecks c fun f=>bnd (Hg n f) fun e=>cnd (!decide (e=0)) (some e)<|(Gb n g h b d) (IntKind.wrap .i64 (c+1)))<|b
def Dm (n:Nat)(i:Int)(f:Am)(h:Ao)(c:Bool):Option (Int):=cnd (c) (some 2)<|cnd (decide (f.fFrom<i)) (some 14)<|bnd (Hg n f.fCond) fun g=>cnd (!decide (g=0)) (some g)<|cnd (decide (64<((f.fChecks.map idA).length:Int))) (some 5)<|Gb n f h (bnd (Pq n f.fLimits) fun d=>bnd (Iw n h ([f.fOpens,f.fCloses,f.fInside,d])) fun b=>cnd (!decide (b=0)) (some b)<|bnd (Nq n f.fLimits) fun e=>cnd (e) (some 2)<|some 0) n 0
def Fi (n:Nat)(f:Ao)(e:Am)(g:Int):Option (Int):=jon (Dm n g e f)<|reg<|bnd (F8 n e.fFrom ((f.fStates.map B6).length:Int)) fun b=>cnd (!(b)) (Dm n g e f true)<|cnd (decide (e.fTo<(-1))) (Dm n g e f true)<|cnd (decide (((f.fStates.map B6).length:Int)<=e.fTo)) (Dm n g e f true)<|bnd (F8 n e.fVar f.fVars) fun c=>cnd (!(c)) (Dm n g e f true)<|bnd (F8 n e.fType 16) fun d=>Dm n g e f !(d)
def En (n:Nat)(g:Ao)(c:Option (Int)):Nat->Int×Int->Option (Int) |0,_=>none |d+1,b=>cnd (decide (b.2<((g.fEdges.map Ax).length:Int))) (idx g.fEdges b.2 fun e=>bnd (Fi n g e b.1) fun f=>cnd (!decide (f=0)) (some f)<|(En n g c d) (e.fFrom,(IntKind.wrap .i64 (b.2+1))))<|c
def F6 (n:Nat)(g:Ao)(b:Option (Int)):Nat->Int->Option (Int) |0,_=>none |d+1,c=>cnd (decide (c<((g.fStates.map B6).length:Int))) (idx g.fStates c fun f=>bnd (Fh n g f.fGuards) fun e=>cnd (!decide (e=0)) (some e)<|(F6 n g b d) (IntKind.wrap .i64 (c+1)))<|b
def Fg (n:Nat)(c:Ao)(b:Bool):Option (Int):=cnd (b) (some 5)<|F6 n c (En n c (some 0) n (0,0)) n 0
def F7 (n:Nat)(c:Ao)(b:Bool):Option (Int):=cnd (b) (some 2)<|jon (Fg n c)<|reg<|cnd (decide (((c.fStates.map B6).length:Int)<1)) (Fg n c true)<|cnd (decide (256<((c.fStates.map B6).length:Int))) (Fg n c true)<|Fg n c (decide (2048<((c.fEdges.map Ax).length:Int)))
def D5 (n:Nat)(b:Ao):Option (Int):=jon (F7 n b)<|reg<|cnd (decide (b.fVars<0)) (F7 n b true)<|cnd (decide (16<b.fVars)) (F7 n b true)<|cnd (decide (b.fScopes<0)) (F7 n b true)<|F7 n b (decide (64<b.fScopes))
def Ii (n:Nat)(b:Bool):Option (Bool):=some b
def Pi (n:Nat)(b:Int):Option (Bool):=jon (Ii n)<|reg<|cnd (decide (0<=b)) (Ii n (decide (b<=5)))<|Ii n false
structure Bv where
 fKind:Int
 fCount:Int
 fValue:A5
deriving DecidableEq,Inhabited
def Eo (x:Bv):AV:=.agg [aI (x.fKind),aI (x.fCount),aI (x.fValue.fKind),aI (x.fValue.fNum),.str (x.fValue.fText)]
abbrev T9 (x:Bv):List AV:=[aI (x.fKind),aI (x.fCount),aI (x.fValue.fKind),aI (x.fValue.fNum),.str (x.fValue.fText)]
def Gz (n:Nat)(b:Bool):Option (Int):=cnd (b) (some 3)<|some 0
def Kl (n:Nat)(b:Bool):Option (Int):=cnd (b) (some 3)<|some 0
def Km (n:Nat)(c:Bv)(b:Bool):Option (Int):=cnd (b) (cnd (!(decide (c.fValue.fKind=0) && (decide (c.fValue.fNum=0) && ((c.fValue.fText.toList == ByteArray.empty.toList) && true)))) (some 3)<|some 0)<|cnd (decide (c.fKind=1)) (jon (Gz n)<|reg<|cnd (!decide (c.fValue.fKind=0)) (Gz n true)<|cnd (!(c.fValue.fText.toList == ByteArray.empty.toList)) (Gz n true)<|cnd (decide (c.fValue.fNum<(IntKind.wrap .i64 (0-(IntKind.wrap .i64 (c.fCount*1099511627776)))))) (Gz n true)<|Gz n (decide ((IntKind.wrap .i64 (c.fCount*1099511627776))<c.fValue.fNum)))<|jon (Kl n)<|reg<|bnd (H6 n c.fValue) fun f=>cnd (!decide (f=0)) (Kl n true)<|bnd (Ld n c.fKind c.fValue) fun e=>Kl n !(e)
def Ko (n:Nat)(c:Bv)(b:Bool):Option (Int):=cnd (b) (some 2)<|jon (Km n c)<|reg<|cnd (decide (c.fCount=0)) (Km n c true)<|Km n c (decide (c.fKind=0))
def P7 (n:Nat)(b:Bv):Option (Int):=bnd (Pi n b.fKind) fun c=>cnd (!(c)) (some 1)<|jon (Ko n b)<|reg<|cnd (decide (b.fCount<0)) (Ko n b true)<|Ko n b (decide (4096<b.fCount))
def P5 (n:Nat)(f:Int)(c:A5):Option (Int):=bnd (H6 n c) fun b=>cnd (!decide (b=0)) (some b)<|bnd (Ld n f c) fun e=>cnd (!(e)) (some 9)<|some 0
def Rs (n:Nat)(b:Int)(e:A5)(c:A5):Option (A5):=cnd (decide (b=1)) (some (⟨0,(IntKind.wrap .i64 (e.fNum+c.fNum)),ByteArray.empty⟩))<|cnd (decide (b=2)) (some (⟨0,(min e.fNum c.fNum),ByteArray.empty⟩))<|cnd (decide (b=3)) (some (⟨0,(max e.fNum c.fNum),ByteArray.empty⟩))<|cnd (decide (b=4)) (some e)<|cnd (decide (b=5)) (some c)<|some (⟨0,0,ByteArray.empty⟩)
def Iq (n:Nat)(c:Bv)(b:Int×Int×ByteArray):Option (Bv×Int):=some (⟨c.fKind,(IntKind.wrap .i64 (c.fCount+1)),⟨b.1,b.2.1,b.2.2⟩⟩,0)
def So (n:Nat)(b:Bv)(c:A5):Option (Bv×Int):=bnd (P7 n b) fun g=>cnd (!decide (g=0)) (some (⟨0,0,⟨0,0,ByteArray.empty⟩⟩,g))<|bnd (P5 n b.fKind c) fun f=>cnd (!decide (f=0)) (some (⟨0,0,⟨0,0,ByteArray.empty⟩⟩,f))<|cnd (decide (b.fCount=4096)) (some (⟨0,0,⟨0,0,ByteArray.empty⟩⟩,5))<|jon (Iq n b)<|reg<|cnd (decide (b.fKind=0)) (Iq n b (0,0,ByteArray.empty))<|reg<|cnd (decide (0<b.fCount)) (bnd (Rs n b.fKind b.fValue c) fun e=>Iq n b (e.fKind,e.fNum,e.fText))<|Iq n b (c.fKind,c.fNum,c.fText)
def Kb (n:Nat)(c:A5)(e:Bv)(b:Bool):Option (A5×Int):=cnd (b) (some (c,0))<|some (e.fValue,0)
def Ow (n:Nat)(b:Bv)(c:A5):Option (A5×Int):=bnd (P7 n b) fun f=>cnd (!decide (f=0)) (some (⟨0,0,ByteArray.empty⟩,f))<|bnd (P5 n b.fKind c) fun e=>cnd (!decide (e=0)) (some (⟨0,0,ByteArray.empty⟩,e))<|cnd (decide (b.fKind=0)) (some (⟨0,b.fCount,ByteArray.empty⟩,0))<|jon (Kb n c b)<|reg<|cnd (decide (b.fCount=0)) (Kb n c b (!decide (b.fKind=1)))<|Kb n c b false
def P6 (n:Nat)(h:A5)(g:(List A5))(d:Int->Int->Int->Int->ByteArray->Option (A5×Int)):Nat->Int×Int×Int×Int×Int×ByteArray->Option (A5×Int) |0,_=>none |e+1,b=>cnd (decide (b.1<((g.map Aa).length:Int))) (idx g b.1 fun f=>bnd (So n (⟨b.2.1,b.2.2.1,⟨b.2.2.2.1,b.2.2.2.2.1,b.2.2.2.2.2⟩⟩:Bv) f) fun c=>cnd (!decide (c.2=0)) (some (⟨0,0,ByteArray.empty⟩,c.2))<|(P6 n h g d e) ((IntKind.wrap .i64 (b.1+1)),c.1.fKind,c.1.fCount,c.1.fValue.fKind,c.1.fValue.fNum,c.1.fValue.fText))<|d b.2.1 b.2.2.1 b.2.2.2.1 b.2.2.2.2.1 b.2.2.2.2.2
def Pr (n:Nat)(j:Int)(i:(List A5))(h:A5):Option (A5×Int):=bnd (Pi n j) fun k=>cnd (!(k)) (some (⟨0,0,ByteArray.empty⟩,1))<|cnd (decide (4096<((i.map Aa).length:Int))) (some (⟨0,0,ByteArray.empty⟩,5))<|P6 n h i (fun b c d e f=>bnd (Ow n (⟨b,c,⟨d,e,f⟩⟩:Bv) h) fun g=>some (g.1,g.2)) n (0,j,0,0,0,ByteArray.empty)
structure A7 where
 fSource:Int
 fSeq:Int
 fType:Int
 fTime:Int
 fValues:(List A5)
deriving DecidableEq,Inhabited
def A6 (x:A7):AV:=.agg [aI (x.fSource),aI (x.fSeq),aI (x.fType),aI (x.fTime),.sl 3 (x.fValues.map Aa)]
abbrev Cc (x:A7):List AV:=[aI (x.fSource),aI (x.fSeq),aI (x.fType),aI (x.fTime),.sl 3 (x.fValues.map Aa)]
structure Ai where
 fVars:(List (List A7))
deriving DecidableEq,Inhabited
def Dw (x:Ai):AV:=.agg [.sl 1 (List.map (fun q=>AV.sl 5 (List.map A6 q)) (x.fVars))]
abbrev Dx (x:Ai):List AV:=[.sl 1 (List.map (fun q=>AV.sl 5 (List.map A6 q)) (x.fVars))]
def Ka (n:Nat)(e:Int)(f:Ai)(b:Bool):Option ((List A7)):=cnd (b) (some [])<|idx f.fVars e fun c=>some c
def L4 (n:Nat)(c:Ai)(b:Int):Option ((List A7)):=jon (Ka n b c)<|reg<|cnd (decide (b<0)) (Ka n b c true)<|Ka n b c (decide ((((List.map (fun q=>AV.sl 5 (List.map A6 q)) (c.fVars)).length:Nat):Int)<=b))
def Vy (n:Nat)(h:Ai)(c:Int)(g:Int)(f:A7):Option (A7×Bool):=cnd (decide (c=g)) (some (f,true))<|bnd (L4 n (⟨h.fVars⟩:Ai) c) fun b=>cnd (decide (((b.map A6).length:Int)=0)) (some (⟨0,0,0,0,[]⟩,false))<|idx b (IntKind.wrap .i64 (((b.map A6).length:Int)-1)) fun e=>some (e,true)
def Oe (n:Nat)(j:Av)(i:(List A7))(c:(List A5)->Option (A5×Int)):Nat->Int×(List A5)->Option (A5×Int) |0,_=>none |d+1,b=>cnd (decide (b.1<((i.map A6).length:Int))) (idx i b.1 fun e=>cnd (decide (((e.fValues.map Aa).length:Int)<=j.fField)) (some (⟨0,0,ByteArray.empty⟩,6))<|idx i b.1 fun f=>idx f.fValues j.fField fun g=>app b.2 [g] 32 fun h=>(Oe n j i c d) ((IntKind.wrap .i64 (b.1+1)),h))<|c b.2
def Ph (n:Nat)(h:Av)(i:Ai)(o:Int)(m:A7):Option (A5×Int):=cnd (decide (h.fOp=0)) (some (h.fValue,0))<|cnd (decide (h.fOp=3)) (bnd (L4 n (⟨i.fVars⟩:Ai) h.fVar) fun k=>some (⟨0,((k.map A6).length:Int),ByteArray.empty⟩,0))<|cnd (decide (h.fOp=4)) (bnd (L4 n (⟨i.fVars⟩:Ai) h.fVar) fun j=>Oe n h j (fun c=>bnd (Pr n h.fKind c h.fValue) fun d=>some (d.1,d.2)) n (0,[]))<|bnd (Vy n (⟨i.fVars⟩:Ai) h.fVar o m) fun b=>cnd (!(b.2)) (some (⟨0,0,ByteArray.empty⟩,10))<|cnd (decide (h.fOp=2)) (some (⟨0,b.1.fTime,ByteArray.empty⟩,0))<|cnd (decide (((b.1.fValues.map Aa).length:Int)<=h.fField)) (some (⟨0,0,ByteArray.empty⟩,6))<|idx b.1.fValues h.fField fun f=>bnd (H6 n f) fun e=>cnd (!decide (e=0)) (some (⟨0,0,ByteArray.empty⟩,e))<|idx b.1.fValues h.fField fun g=>some (g,0)
def Hy (n:Nat)(b:Bool):Option (Int):=cnd (b) (some 1)<|some (-1)
def Gu (n:Nat)(c:Int)(b:Bool):Option (Int):=cnd (b) (some 0)<|jon (Hy n)<|reg<|cnd (decide (c=10)) (Hy n (decide (c=10)))<|reg<|cnd (decide (c=11)) (Hy n (decide (c=11)))<|Hy n (decide (c=12))
def Rp (n:Nat)(b:Int):Option (Int):=jon (Gu n b)<|reg<|cnd (decide (b=5)) (Gu n b (decide (b=5)))<|reg<|cnd (decide (b=6)) (Gu n b (decide (b=6)))<|reg<|cnd (decide (b=7)) (Gu n b (decide (b=7)))<|Gu n b (decide (b=8))
def Fx (n:Nat)(e:(List Int))(f:Int)(c:Int)(b:Int->Option (Int))(d:Bool):Option (Int):=cnd (d) (some 9)<|b (IntKind.wrap .i64 (c+1))
def Ff (n:Nat)(i:(List Int))(m:Int)(b:Option (Int)):Nat->Int->Option (Int) |0,_=>none |d+1,c=>cnd (decide (c<((i.map aI).length:Int))) (bnd (Rp n m) fun e=>jon (Fx n i m c (Ff n i m b d))<|reg<|cnd (decide (0<=e)) (idx i c fun f=>cnd (!decide (f=e)) (Fx n i m c (Ff n i m b d) true)<|cnd (decide (m=9)) (idx i c fun g=>idx i 0 fun h=>Fx n i m c (Ff n i m b d) (!decide (g=h)))<|Fx n i m c (Ff n i m b d) false)<|cnd (decide (m=9)) (idx i c fun j=>idx i 0 fun k=>Fx n i m c (Ff n i m b d) (!decide (j=k)))<|Fx n i m c (Ff n i m b d) false)<|b
def Ve (n:Nat)(c:Int)(b:(List Int)):Option (Int):=Ff n b c (some 0) n 0
def Em (n:Nat)(b:Bool):Option (A5):=cnd (b) (some (⟨1,1,ByteArray.empty⟩))<|some (⟨1,0,ByteArray.empty⟩)
def Ki (n:Nat)(b:Int×Int×ByteArray):Option (A5):=some (⟨b.1,b.2.1,b.2.2⟩)
def Kh (n:Nat)(b:Int×Int×ByteArray):Option (A5):=some (⟨b.1,b.2.1,b.2.2⟩)
def Lc (n:Nat)(m:Int)(i:(List A5)):Option (A5):=cnd (decide (m=5)) (idx i 0 fun D=>idx i 1 fun C=>some (⟨0,(IntKind.wrap .i64 (D.fNum+C.fNum)),ByteArray.empty⟩))<|cnd (decide (m=6)) (idx i 0 fun B=>idx i 1 fun A=>some (⟨0,(IntKind.wrap .i64 (B.fNum-A.fNum)),ByteArray.empty⟩))<|cnd (decide (m=7)) (idx i 0 fun z=>idx i 1 fun y=>bnd (Em n (decide (z.fNum<y.fNum))) fun x=>some x)<|cnd (decide (m=8)) (idx i 0 fun w=>idx i 1 fun r=>bnd (Em n (decide (w.fNum<=r.fNum))) fun h=>some h)<|cnd (decide (m=9)) (idx i 0 fun b=>idx i 1 fun c=>bnd (Em n (decide (b.fKind=c.fKind) && (decide (b.fNum=c.fNum) && ((b.fText.toList == c.fText.toList) && true)))) fun j=>some j)<|cnd (decide (m=10)) (jon (Ki n)<|reg<|idx i 0 fun k=>cnd (decide (k.fNum=1)) (idx i 1 fun l=>bnd (Em n (decide (l.fNum=1))) fun d=>Ki n (d.fKind,d.fNum,d.fText))<|bnd (Em n false) fun e=>Ki n (e.fKind,e.fNum,e.fText))<|cnd (decide (m=11)) (jon (Kh n)<|reg<|idx i 0 fun o=>cnd (decide (o.fNum=1)) (bnd (Em n true) fun f=>Kh n (f.fKind,f.fNum,f.fText))<|idx i 1 fun p=>bnd (Em n (decide (p.fNum=1))) fun g=>Kh n (g.fKind,g.fNum,g.fText))<|idx i 0 fun q=>bnd (Em n (!decide (q.fNum=1))) fun s=>some s
def Og (n:Nat)(b:Av->Ai->Int->A7->Option (A5×Int))(k:A7)(m:Int)(o:Ai)(i:Av)(d:(List A5)->(List Int)->Option (A5×Int)):Nat->Int×(List A5)×(List Int)->Option (A5×Int) |0,_=>none |f+1,c=>cnd (decide (c.1<((i.fArgs.map idA).length:Int))) (idxD C8 i.fArgs c.1 fun g=>bnd (b g (⟨o.fVars⟩:Ai) m k) fun e=>cnd (!decide (e.2=0)) (some (⟨0,0,ByteArray.empty⟩,e.2))<|app c.2.1 [e.1] 32 fun h=>app c.2.2 [e.1.fKind] 8 fun j=>(Og n b k m o i d f) ((IntKind.wrap .i64 (c.1+1)),h,j))<|d c.2.1 c.2.2
def H8:Nat->Av->Ai->Int->A7->Option (A5×Int) |0,_,_,_,_=>none |n+1,f,j,i,h=>cnd (decide (((f.fArgs.map idA).length:Int)=0)) (bnd (Ph n f (⟨j.fVars⟩:Ai) i h) fun g=>some (g.1,g.2))<|Og n (H8 n) h i j f (fun b c=>bnd (Ve n f.fOp c) fun d=>cnd (!decide (d=0)) (some (⟨0,0,ByteArray.empty⟩,d))<|bnd (Lc n f.fOp b) fun e=>some (e,0)) n (0,[],[])
def Vz (n:Nat)(e:Av)(h:Ai)(g:Int)(f:A7):Option (A5×Int):=bnd (G9 n e) fun c=>cnd (!decide (c=0)) (some (⟨0,0,ByteArray.empty⟩,c))<|bnd (H8 n e (⟨h.fVars⟩:Ai) g f) fun b=>some (b.1,b.2)
def Kj (n:Nat)(b:Bool):Option (Bool):=some b
def G6 (n:Nat)(h:Av)(g:Ai)(f:Int)(e:A7):Option (Bool):=bnd (Vz n h (⟨g.fVars⟩:Ai) f e) fun b=>jon (Kj n)<|reg<|cnd (decide (b.2=0)) (bnd (Em n true) fun c=>Kj n (decide (b.1.fKind=c.fKind) && (decide (b.1.fNum=c.fNum) && ((b.1.fText.toList == c.fText.toList) && true))))<|Kj n false
structure Bt where
 fTime:Int
 fSource:Int
 fSeq:Int
deriving DecidableEq,Inhabited
def C3 (x:Bt):AV:=.agg [aI (x.fTime),aI (x.fSource),aI (x.fSeq)]
abbrev zqz (x:Bt):List AV:=[aI (x.fTime),aI (x.fSource),aI (x.fSeq)]
structure C2 where
 fVar:Int
 fRef:Bt
deriving DecidableEq,Inhabited
def B9 (x:C2):AV:=.agg [aI (x.fVar),aI (x.fRef.fTime),aI (x.fRef.fSource),aI (x.fRef.fSeq)]
structure A8 where
 fBindings:(List C2)
deriving DecidableEq,Inhabited
def Ap (x:A8):AV:=.agg [.sl 4 (x.fBindings.map B9)]
abbrev M8 (x:A8):List AV:=[.sl 4 (x.fBindings.map B9)]
def P8 (n:Nat)(c:Bt)(b:Bt):Option (Int):=cnd (!decide (c.fTime=b.fTime)) (cnd (decide (c.fTime<b.fTime)) (some (-1))<|some 1)<|cnd (!decide (c.fSource=b.fSource)) (cnd (decide (c.fSource<b.fSource)) (some (-1))<|some 1)<|cnd (decide (c.fSeq<b.fSeq)) (some (-1))<|cnd (decide (b.fSeq<c.fSeq)) (some 1)<|some 0
def S5 (n:Nat)(c:C2)(b:C2):Option (Int):=bnd (P8 n (⟨c.fRef.fTime,c.fRef.fSource,c.fRef.fSeq⟩:Bt) (⟨b.fRef.fTime,b.fRef.fSource,b.fRef.fSeq⟩:Bt)) fun e=>cnd (!decide (e=0)) (some e)<|cnd (decide (c.fVar<b.fVar)) (some (-1))<|cnd (decide (b.fVar<c.fVar)) (some 1)<|some 0
def K3 (n:Nat)(i:A8)(j:A8)(b:Int)(e:Option (Int))(f:Int->Option (Int))(h:Bool):Option (Int):=cnd (h) (idx j.fBindings b fun c=>idx i.fBindings b fun d=>bnd (S5 n (⟨c.fVar,⟨c.fRef.fTime,c.fRef.fSource,c.fRef.fSeq⟩⟩:C2) (⟨d.fVar,⟨d.fRef.fTime,d.fRef.fSource,d.fRef.fSeq⟩⟩:C2)) fun g=>cnd (!decide (g=0)) (some g)<|f (IntKind.wrap .i64 (b+1)))<|e
def I2 (n:Nat)(e:A8)(f:A8)(b:Option (Int)):Nat->Int->Option (Int) |0,_=>none |d+1,c=>jon (K3 n e f c b (I2 n e f b d))<|reg<|cnd (decide (c<((f.fBindings.map B9).length:Int))) (K3 n e f c b (I2 n e f b d) (decide (c<((e.fBindings.map B9).length:Int))))<|K3 n e f c b (I2 n e f b d) false
def Ie (n:Nat)(c:A8)(b:A8):Option (Int):=I2 n b c (cnd (decide (((c.fBindings.map B9).length:Int)<((b.fBindings.map B9).length:Int))) (some (-1))<|cnd (decide (((b.fBindings.map B9).length:Int)<((c.fBindings.map B9).length:Int))) (some 1)<|some 0) n 0
structure Ah where
 fScope:Int
 fTime:Int
deriving DecidableEq,Inhabited
def Ae (x:Ah):AV:=.agg [aI (x.fScope),aI (x.fTime)]
abbrev za6 (x:Ah):List AV:=[aI (x.fScope),aI (x.fTime)]
structure A4 where
 fState:Int
 fBindings:(List C2)
 fStarts:(List Ah)
deriving DecidableEq,Inhabited
def Ak (x:A4):AV:=.agg [aI (x.fState),.sl 4 (x.fBindings.map B9),.sl 2 (x.fStarts.map Ae)]
abbrev Co (x:A4):List AV:=[aI (x.fState),.sl 4 (x.fBindings.map B9),.sl 2 (x.fStarts.map Ae)]
def I1 (n:Nat)(g:A4)(h:A4)(e:Int)(b:Int->Option (Int))(c:Ah)(d:Ah)(f:Bool):Option (Int):=cnd (f) (some (-1))<|cnd (!(decide (c.fScope=d.fScope) && (decide (c.fTime=d.fTime) && true))) (some 1)<|b (IntKind.wrap .i64 (e+1))
def K2 (n:Nat)(h:A4)(i:A4)(b:Int)(f:Option (Int))(c:Int->Option (Int))(g:Bool):Option (Int):=cnd (g) (idx i.fStarts b fun d=>idx h.fStarts b fun e=>jon (I1 n h i b c d e)<|reg<|cnd (decide (d.fScope<e.fScope)) (I1 n h i b c d e true)<|cnd (decide (d.fScope=e.fScope)) (I1 n h i b c d e (decide (d.fTime<e.fTime)))<|I1 n h i b c d e false)<|f
def I0 (n:Nat)(e:A4)(f:A4)(b:Option (Int)):Nat->Int->Option (Int) |0,_=>none |d+1,c=>jon (K2 n e f c b (I0 n e f b d))<|reg<|cnd (decide (c<((f.fStarts.map Ae).length:Int))) (K2 n e f c b (I0 n e f b d) (decide (c<((e.fStarts.map Ae).length:Int))))<|K2 n e f c b (I0 n e f b d) false
def Ob (n:Nat)(c:A4)(b:A4):Option (Int):=cnd (!decide (c.fState=b.fState)) (cnd (decide (c.fState<b.fState)) (some (-1))<|some 1)<|bnd (Ie n (⟨c.fBindings⟩:A8) (⟨b.fBindings⟩:A8)) fun e=>cnd (!decide (e=0)) (some e)<|I0 n b c (cnd (decide (((c.fStarts.map Ae).length:Int)<((b.fStarts.map Ae).length:Int))) (some (-1))<|cnd (decide (((b.fStarts.map Ae).length:Int)<((c.fStarts.map Ae).length:Int))) (some 1)<|some 0) n 0
def Ky (n:Nat)(j:A4)(i:(List A4))(b:Int)(c:Bool):Option ((List A4)):=cnd (c) (some i)<|sls i 0 b fun d=>app ([]:List A4) d 56 fun e=>app e [j] 56 fun f=>sls i b ((i.map Ak).length:Int) fun g=>app f g 56 fun h=>some h
def Kx (n:Nat)(f:A4)(g:(List A4))(b:Int)(c:Int->Option ((List A4)))(d:Int->Option ((List A4)))(e:Bool):Option ((List A4)):=cnd (e) (d (IntKind.wrap .i64 (b+1)))<|c b
def Ik (n:Nat)(h:A4)(g:(List A4))(b:Int->Option ((List A4))):Nat->Int->Option ((List A4)) |0,_=>none |d+1,c=>jon (Kx n h g c b (Ik n h g b d))<|reg<|cnd (decide (c<((g.map Ak).length:Int))) (idx g c fun e=>bnd (Ob n e h) fun f=>Kx n h g c b (Ik n h g b d) (decide (f<0)))<|Kx n h g c b (Ik n h g b d) false
def Lj (n:Nat)(e:(List A4))(f:A4):Option ((List A4)):=Ik n f e (fun b=>jon (Ky n f e b)<|reg<|cnd (decide (b<((e.map Ak).length:Int))) (idx e b fun c=>bnd (Ob n c f) fun d=>Ky n f e b (decide (d=0)))<|Ky n f e b false) n 0
def Ir (n:Nat)(b:Bool):Option (Bool):=some b
def Py (n:Nat)(b:Int):Option (Bool):=jon (Ir n)<|reg<|cnd (decide (0<=b)) (Ir n (decide (b<=5)))<|Ir n false
def H9 (n:Nat)(b:Bool):Option (Bool):=some b
def Px (n:Nat)(b:Int)(c:A5):Option (Bool):=jon (H9 n)<|reg<|cnd (decide (c.fKind=0)) (H9 n true)<|cnd (!decide (b=1)) (cnd (!decide (b=2)) (H9 n (!decide (b=3)))<|H9 n false)<|H9 n false
def Lv (n:Nat)(f:Int)(c:A5):Option (Int):=bnd (Hd n c) fun b=>cnd (!decide (b=0)) (some b)<|bnd (Px n f c) fun e=>cnd (!(e)) (some 9)<|some 0
def W4 (n:Nat)(c:Int)(b:A5):Option (A5):=cnd (decide (c=0)) (some (⟨0,0,ByteArray.empty⟩))<|some b
def Vw (n:Nat):Option (A5):=some (⟨0,0,ByteArray.empty⟩)
def Vv (n:Nat)(c:A5)(b:A5):Option (A5×A5×A5):=some (⟨0,(IntKind.wrap .i64 (c.fNum+b.fNum)),ByteArray.empty⟩,c,b)
def Vu (n:Nat)(c:A5)(b:A5):Option (A5×A5×A5):=some (⟨0,(min c.fNum b.fNum),ByteArray.empty⟩,c,b)
def Vt (n:Nat)(c:A5)(b:A5):Option (A5×A5×A5):=some (⟨0,(max c.fNum b.fNum),ByteArray.empty⟩,c,b)
def Vs (n:Nat)(b:A5):Option (A5×A5):=some (b,b)
def Vr (n:Nat)(b:A5):Option (A5×A5):=some (b,b)
def T6 (n:Nat)(b:Int)(e:A5)(c:A5):Option (A5):=natc b 0 (bnd (Vw n) fun k=>some k)<|natc b 1 (bndM 15 (Vv n e c) fun j=>some j.1)<|natc b 2 (bndM 15 (Vu n e c) fun i=>some i.1)<|natc b 3 (bndM 15 (Vt n e c) fun h=>some h.1)<|natc b 4 (bndM 15 (Vs n e) fun g=>some g.1)<|natc b 5 (bndM 15 (Vr n c) fun f=>some f.1)<|none
def W5 (n:Nat)(b:Bv)(c:Bv):Option (Bv):=cnd (decide (b.fCount=0)) (some c)<|cnd (decide (c.fCount=0)) (some b)<|bnd (T6 n b.fKind b.fValue c.fValue) fun e=>some (⟨b.fKind,(IntKind.wrap .i64 (b.fCount+c.fCount)),e⟩)
def W8 (n:Nat)(g:Bv)(f:A5)(b:Int):Option (Bv):=bnd (W4 n b f) fun e=>bnd (W5 n g (⟨b,1,e⟩:Bv)) fun c=>some c
def Pe (n:Nat)(e:Int)(h:(List A5))(c:Int->Int->Int->Int->ByteArray->Option (Bv)):Nat->Int×Int×Int×Int×Int×ByteArray->Option (Bv) |0,_=>none |f+1,b=>cnd (decide (b.1<((h.map Aa).length:Int))) (idx h b.1 fun g=>bnd (W8 n (⟨b.2.1,b.2.2.1,⟨b.2.2.2.1,b.2.2.2.2.1,b.2.2.2.2.2⟩⟩:Bv) g e) fun d=>(Pe n e h c f) ((IntKind.wrap .i64 (b.1+1)),d.fKind,d.fCount,d.fValue.fKind,d.fValue.fNum,d.fValue.fText))<|c b.2.1 b.2.2.1 b.2.2.2.1 b.2.2.2.2.1 b.2.2.2.2.2
def T8 (n:Nat)(h:Bv)(i:(List A5))(g:Int):Option (Bv):=Pe n g i (fun b c d e f=>some (⟨b,c,⟨d,e,f⟩⟩)) n (0,h.fKind,h.fCount,h.fValue.fKind,h.fValue.fNum,h.fValue.fText)
def Li (n:Nat)(c:Bv)(b:Bool):Option (Int):=cnd (b) (some 2)<|reg<|cnd (decide (c.fCount=0)) (cnd (!((decide (c.fValue.fKind=0) && (decide (c.fValue.fNum=0) && ((c.fValue.fText.toList == ByteArray.empty.toList) && true))))) (some 3)<|some 0)<|cnd (decide (c.fKind=0)) (cnd (!((decide (c.fValue.fKind=0) && (decide (c.fValue.fNum=0) && ((c.fValue.fText.toList == ByteArray.empty.toList) && true))))) (some 3)<|some 0)<|reg<|cnd (decide (c.fKind=1)) (reg<|cnd (decide (c.fValue.fKind=0)) (cnd ((c.fValue.fText.toList == ByteArray.empty.toList)) (cnd (decide ((IntKind.wrap .i64 (0-(IntKind.wrap .i64 (c.fCount*1099511627776))))<=c.fValue.fNum)) (cnd (!(decide (c.fValue.fNum<=(IntKind.wrap .i64 (c.fCount*1099511627776))))) (some 3)<|some 0)<|some 3)<|some 3)<|some 3)<|reg<|bnd (Hd n c.fValue) fun f=>cnd (decide (f=0)) (bnd (Px n c.fKind c.fValue) fun e=>cnd (!(e)) (some 3)<|some 0)<|some 3
def Tg (n:Nat)(b:Bv):Option (Int):=bnd (Py n b.fKind) fun c=>cnd (!(c)) (some 1)<|jon (Li n b)<|reg<|cnd (decide (b.fCount<0)) (Li n b true)<|Li n b (decide (4096<b.fCount))
def Lh (n:Nat)(c:A5)(e:Bv)(b:Bool):Option (A5×Int):=cnd (b) (some (c,0))<|some (e.fValue,0)
def Ps (n:Nat)(b:Bv)(c:A5):Option (A5×Int):=bnd (Tg n b) fun f=>cnd (!decide (f=0)) (some (⟨0,0,ByteArray.empty⟩,f))<|bnd (Lv n b.fKind c) fun e=>cnd (!decide (e=0)) (some (⟨0,0,ByteArray.empty⟩,e))<|cnd (decide (b.fKind=0)) (some (⟨0,b.fCount,ByteArray.empty⟩,0))<|jon (Lh n c b)<|reg<|cnd (decide (b.fCount=0)) (Lh n c b (!decide (b.fKind=1)))<|Lh n c b false
def Pz (n:Nat)(i:A5)(g:(List A5))(h:Int)(b:Option (A5×Int)):Nat->Int->Option (A5×Int) |0,_=>none |d+1,c=>cnd (decide (c<((g.map Aa).length:Int))) (idx g c fun f=>bnd (Lv n h f) fun e=>cnd (!decide (e=0)) (some (⟨0,0,ByteArray.empty⟩,e))<|(Pz n i g h b d) (IntKind.wrap .i64 (c+1)))<|b
def Q8 (n:Nat)(e:Int)(f:(List A5))(g:A5):Option (A5×Int):=bnd (Py n e) fun h=>cnd (!(h)) (some (⟨0,0,ByteArray.empty⟩,1))<|cnd (decide (4096<((f.map Aa).length:Int))) (some (⟨0,0,ByteArray.empty⟩,5))<|Pz n g f e (bnd (T8 n (⟨e,0,⟨0,0,ByteArray.empty⟩⟩:Bv) f e) fun c=>bnd (Ps n c g) fun b=>some (b.1,b.2)) n 0
def U8 (n:Nat)(b:Int):Option (Bool):=some (!decide (b=b))
def Du (n:Nat)(c:Int)(b:Int):Option (Int):=bnd (U8 n c) fun f=>bnd (U8 n b) fun e=>cnd (f) (cnd (e) (some 0)<|some (-1))<|cnd (e) (some 1)<|cnd (decide (c<b)) (some (-1))<|cnd (decide (b<c)) (some 1)<|some 0
def Qb (n:Nat)(f:(List Int))(b:Option (Int)):Nat->Int->Option (Int) |0,_=>none |d+1,c=>cnd (decide (c<((f.map aI).length:Int))) (idx f c fun e=>cnd (!decide (e=0)) (some e)<|(Qb n f b d) (IntKind.wrap .i64 (c+1)))<|b
def Fp (n:Nat)(b:(List Int)):Option (Int):=Qb n b (some 0) n 0
def Tz (n:Nat)(c:Bt)(b:Bt):Option (Int):=bnd (Du n c.fTime b.fTime) fun h=>bnd (Du n c.fSource b.fSource) fun g=>bnd (Du n c.fSeq b.fSeq) fun f=>bnd (Fp n ([h,g,f])) fun e=>some e
def Te (n:Nat)(c:C2)(b:C2):Option (Int):=bnd (Tz n (⟨c.fRef.fTime,c.fRef.fSource,c.fRef.fSeq⟩:Bt) (⟨b.fRef.fTime,b.fRef.fSource,b.fRef.fSeq⟩:Bt)) fun g=>bnd (Du n c.fVar b.fVar) fun f=>bnd (Fp n ([g,f])) fun e=>some e
def Oi (n:Nat)(h:(List C2))(i:(List C2))(c:Option (Int)):Nat->Int->Option (Int) |0,_=>none |f+1,b=>cnd (decide (b<((i.map B9).length:Int))) (idx i b fun d=>cnd (decide (((h.map B9).length:Int)<=b)) (some 1)<|idx h b fun e=>bnd (Te n (⟨d.fVar,⟨d.fRef.fTime,d.fRef.fSource,d.fRef.fSeq⟩⟩:C2) (⟨e.fVar,⟨e.fRef.fTime,e.fRef.fSource,e.fRef.fSeq⟩⟩:C2)) fun g=>cnd (!decide (g=0)) (some g)<|(Oi n h i c f) (IntKind.wrap .i64 (b+1)))<|c
def Sf (n:Nat)(c:(List C2))(b:(List C2)):Option (Int):=Oi n b c (cnd (decide (((c.map B9).length:Int)<((b.map B9).length:Int))) (some (-1))<|some 0) n 0
def Q2 (n:Nat)(e:A8)(c:A8):Option (Int):=bnd (Sf n e.fBindings c.fBindings) fun b=>some b
def Tl (n:Nat)(c:Ah)(b:Ah):Option (Int):=bnd (Du n c.fScope b.fScope) fun g=>bnd (Du n c.fTime b.fTime) fun f=>bnd (Fp n ([g,f])) fun e=>some e
def N8 (n:Nat)(h:(List Ah))(i:(List Ah))(c:Option (Int)):Nat->Int->Option (Int) |0,_=>none |d+1,b=>cnd (decide (b<((i.map Ae).length:Int))) (idx i b fun f=>cnd (decide (((h.map Ae).length:Int)<=b)) (some 1)<|idx h b fun g=>bnd (Tl n f g) fun e=>cnd (!decide (e=0)) (some e)<|(N8 n h i c d) (IntKind.wrap .i64 (b+1)))<|c
def Rq (n:Nat)(c:(List Ah))(b:(List Ah)):Option (Int):=N8 n b c (cnd (decide (((c.map Ae).length:Int)<((b.map Ae).length:Int))) (some (-1))<|some 0) n 0
def Tt (n:Nat)(c:A4)(b:A4):Option (Int):=bnd (Du n c.fState b.fState) fun h=>bnd (Q2 n (⟨c.fBindings⟩:A8) (⟨b.fBindings⟩:A8)) fun g=>bnd (Rq n c.fStarts b.fStarts) fun f=>bnd (Fp n ([h,g,f])) fun e=>some e
attribute [irreducible] Kk F0 G2 Ig Ks Gy C6 H3 Kt Ku Ih Ej L0 I6 E6 Fz Gx Lz M2 M3 J0 Ha C7 M4 M5 J1 Ep Lf H7 Lg Dm Fg F7 Ii Gz Kl Km Ko Iq Kb Ka Hy Gu Fx Ki Kh Kj K3 I1 K2 Ky Kx Ir H9 Li Lh
end Go.Proofs.YtkoamfnbbhfaiaaGreatDoor
