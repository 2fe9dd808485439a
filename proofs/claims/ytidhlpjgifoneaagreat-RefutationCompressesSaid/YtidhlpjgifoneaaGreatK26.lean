/- What some functions compute, over plain values. -/
import Derived.Test.YtidhlpjgifoneaaGreatK25
set_option linter.unusedVariables false
set_option linter.unusedSimpArgs false
set_option maxRecDepth 100000
set_option maxHeartbeats 8000000
namespace Go.Proofs.YtidhlpjgifoneaaGreat
open Go.RowKit List
open Tryz renaming prog->aA,underlying58->aB,func217->aK,ntmps217->aN,func191->aR,func192->aS,func194->aT,func73->aY,func72->aZ,ntmps191->bD,ntmps192->bE,func181->bH,func141->bI,ntmps73->bJ,func189->bK,func218->bL,ntmps72->bM
open Nat renaming le_refl->aC,le_of_ble_eq_true->aL,min->aQ,min_eq_left->bA
open Option renaming isNone_none->aD
open _root_.Go.Proofs.YtidhlpjgifoneaaGreat.Own renaming made_->aE,nil_->bC
open List renaming getElem?_append_left->aF,getElem?_toArray->aJ,getElem?_append_right->aM,length_nil->aP,append_assoc->aU,take_append_drop->aX
open LeX renaming a->aG
open And renaming intro->aH
open CI renaming w->aO
open Or renaming inr->aV
noncomputable section
abbrev z83 {n}:=jf (M8 n) (fun b=>⟨[(4,.ptr 4 0)],[(4,.box 109 [aI b.1,aI b.2.1,.str (b.2.2)])]⟩) fun _=>M8.eq_1 ..
abbrev z3v {n b a a0f2 a0f1 a0f0 d}:=li (Pr n b a a0f2 a0f1 a0f0 d) (fun c=>⟨[(2,.ptr 2 0),(3,.ptr 3 0),(4,.ptr 4 0),(6,.row 7042),(7,.row 7047),(23,.sl 8 (a.fArgs.map idA)),(24,aI (((a.fArgs.map idA).length:Int))),(25,aI c.1)],[(2,.box 293 [.sl 1 (List.map (fun q=>AV.sl 5 (List.map A6 q)) (a0f0.fVars)),aI a0f1,aI a0f2.fSource,aI a0f2.fSeq,aI a0f2.fType,aI a0f2.fTime,.sl 3 (a0f2.fValues.map Ag),.mapv [(aI 5,.fn 254 [.ref [.fn 253 []]]),(aI 6,.fn 255 [.ref [.fn 253 []]]),(aI 7,.fn 256 []),(aI 8,.fn 257 []),(aI 10,.fn 258 []),(aI 11,.fn 259 []),(aI 12,.fn 260 [])]]),(3,.box 111 (Cm a)),(4,.box 109 [aI 0,aI 0,.str (ByteArray.empty)]),(7042,.row 109 3 (c.2.1.map Ag)),(7047,.row 3 1 (c.2.2.map aI))]⟩) fun _ _=>Pr.eq_2 ..
abbrev zeo {n}:=jf (Nd n) (fun b=>⟨[(8,.bool (b))],[]⟩) fun _=>Nd.eq_1 ..
abbrev zbk {n}:=jf (N4 n) (fun b=>⟨[(6,.bool (b))],[]⟩) fun _=>N4.eq_1 ..
abbrev z2f {n b c a d}:=li (P6 n b c a d) (fun e=>⟨[(0,.sl 11 (a.map Be)),(1,.fn 158 [.ref (Dl c),.ref (Bx b)]),(7,aI (((a.map Be).length:Int))),(8,aI e)],[]⟩) fun _ _=>P6.eq_2 ..
abbrev z2g {n}:=jf (Kj n) (fun b=>⟨[(5,.bool (b))],[]⟩) fun _=>Kj.eq_1 ..
abbrev z2e {n b c d a e}:=li (P5 n b c d a e) (fun f=>⟨[(0,.sl 11 (a.map Be)),(1,.fn 188 [.ref (C7 d),.ref (Dl c),.ref (Bx b)]),(7,aI (((a.map Be).length:Int))),(8,aI f)],[]⟩) fun _ _=>P5.eq_2 ..
abbrev z16 {n d a b}:=li (K8 n d a b) (fun c=>⟨[(0,.sl 2 (a.map Ae)),(1,aI d),(2,.fn 216 []),(8,aI (((a.map Ae).length:Int))),(9,aI c.1),(10,aI c.2)],[]⟩) fun _ _=>K8.eq_2 ..
abbrev zdd {n f a b c d}:=jt (Na n f a b c d) (fun e=>⟨[(2,aI f),(7,.row 7033),(10,aI d.1),(14,.sl 1 (a.map aI)),(15,aI (((a.map aI).length:Int))),(16,aI b.1)],[(7033,.row 102 2 (e.map Ae))]⟩) fun _=>Na.eq_1 ..
attribute [instance] z83 z3v zeo zbk z2f z2g z2e z16 zdd
instance zo7 {n b a}:CI E0 (Vi n b a) true 258 [aI b,aI a] Ag:=by unfold Vi;exact aO [1] Tryz.func258
instance zo6 {n b a}:CI E0 (Vh n b a) true 259 [aI b,aI a] Ag:=by unfold Vh;exact aO [1] Tryz.func259
instance zo5 {n b a}:CI E0 (My n b a) true 260 [aI b,aI a] Ag:=by unfold My;exact aO [] Tryz.func260
def z8b (r:Ab×Int):AV:=.tup [.agg [aI (r.1.fKind),aI (r.1.fNum),.str (r.1.fText)],aI (r.2)]
theorem z2m {n a0f0 a0f1 a0f2 c r}(b:H7 n a0f0 a0f1 a0f2 c=some r):Con E0 true 241 [.agg [.sl 1 (List.map (fun q=>AV.sl 5 (List.map A6 q)) (a0f0.fVars)),aI a0f1,aI a0f2.fSource,aI a0f2.fSeq,aI a0f2.fType,aI a0f2.fTime,.sl 3 (a0f2.fValues.map Ag),.mapv [(aI 5,.fn 254 [.ref [.fn 253 []]]),(aI 6,.fn 255 [.ref [.fn 253 []]]),(aI 7,.fn 256 []),(aI 8,.fn 257 []),(aI 10,.fn 258 []),(aI 11,.fn 259 []),(aI 12,.fn 260 [])]],Av c] (.tup [Ag r.1,aI r.2]):=by
 induction n generalizing a0f0 a0f1 a0f2 c r
 case zero=>cases b
 case succ n d =>
 unfold H7 at b;refine cw Tryz.func241 ?_;repeat' first
  |refine AW.step ?_;conv=>whnf
  |refine Aa.o b (fun b=>?_) fun b=>?_
  |refine Af.I b fun a b=>?_
  |refine B9.I b (fun a b=>?_) rfl rfl fun _=>aV rfl
  |refine NatX.o b (fun m b=>?_)
  |refine EltX.o Ag b (fun x b=>?_)
  |refine OpX.lkc rfl rfl rfl rfl rfl rfl rfl rfl rfl rfl (by first|rfl|kernel_rfl) ?_
  |refine LkC.cons b (fun b=>?_) (fun b=>?_)
  |(cases b;done)
  |refine LtX.o b (fun b=>?_)
  |refine IdxX.oD b D4 (fun x b=>?_)
  |refine Af.o b z8b (fun a h=>d h) (fun a b=>?_)
  |refine AppX.oA b fun l b=>?_
  |exact ⟨_,b,aG [(7042,42),(7047,47)]⟩
  |refine Ax.I b ?_ fun m v b=>?_
  |exact LeX.trans (LeX.adopt 6 7042 109 3 rfl rfl) (LeX.trans (LeX.adopt 7 7047 3 1 rfl rfl) (aG []))
  |refine AndA ?_
  |refine EqX.A ?_
  |exact RetX.oB b
instance zi9 {n a0f0 a0f1 a0f2 a}:CI E0 (H7 n a0f0 a0f1 a0f2 a) true 241 [.agg [.sl 1 (List.map (fun q=>AV.sl 5 (List.map A6 q)) (a0f0.fVars)),aI a0f1,aI a0f2.fSource,aI a0f2.fSeq,aI a0f2.fType,aI a0f2.fTime,.sl 3 (a0f2.fValues.map Ag),.mapv [(aI 5,.fn 254 [.ref [.fn 253 []]]),(aI 6,.fn 255 [.ref [.fn 253 []]]),(aI 7,.fn 256 []),(aI 8,.fn 257 []),(aI 10,.fn 258 []),(aI 11,.fn 259 []),(aI 12,.fn 260 [])]],Av a] (fun r=>.tup [Ag r.1,aI r.2]):=⟨z2m⟩
instance y28 {n f e d c}:CI E0 (Zf n f e d c) true 213 [Av f,Dk e,aI d,A6 c] (fun r=>.tup [Ag r.1,aI r.2]):=⟨fun {r} b=>by
 unfold Zf at b;refine cw Tryz.func213 ?_;repeat' first
  |refine AW.step ?_;conv=>whnf
  |refine Aa.o b (fun b=>?_) fun b=>?_
  |refine Af.I b fun a b=>?_
  |refine Af.mk _ _ zaq ?_
  |refine AndA ?_
  |exact RetX.oB b⟩
def zov (r:Bool):AV:=.bool (r)
instance zgk {n d c b a}:CI E0 (Jl n d c b a) true 187 [Av d,Dk c,aI b,A6 a] (fun r=>.bool (r)):=by unfold Jl;exact aO [2] Tryz.func187
instance zvo {n c b a}:CI E0 (Ss n c b a) true 159 [Be c,Dk b,A6 a] (fun r=>.bool (r)):=by unfold Ss;exact aO [1] Tryz.func159
instance zex {n c b a}:CI E0 (Kx n c b a) true 158 [Be c,.ref (Dl b),.ref (Bx a)] (fun r=>.bool (r)):=by unfold Kx;exact aO [] Tryz.func158
instance zge {n a b c}:CI E0 (Ud n a b c) true 181 [.sl 11 (a.map Be),.fn 158 [.ref (Dl b),.ref (Bx c)]] aI:=by unfold Ud;exact aO [] bH
instance zd4 {n a b c}:CI E0 (Ty n a b c) true 141 [.sl 11 (a.map Be),.fn 158 [.ref (Dl b),.ref (Bx c)]] (fun r=>.bool (r)):=by unfold Ty;exact aO [] bI
instance zgg {n d c b a}:CI E0 (Il n d c b a) true 188 [Be d,.ref (C7 c),.ref (Dl b),.ref (Bx a)] (fun r=>.bool (r)):=by unfold Il;exact aO [1] Tryz.func188
instance zgd {n a b c d}:CI E0 (Uc n a b c d) true 181 [.sl 11 (a.map Be),.fn 188 [.ref (C7 b),.ref (Dl c),.ref (Bx d)]] aI:=by unfold Uc;exact aO [] bH
instance zd3 {n a b c d}:CI E0 (Tx n a b c d) true 141 [.sl 11 (a.map Be),.fn 188 [.ref (C7 b),.ref (Dl c),.ref (Bx d)]] (fun r=>.bool (r)):=by unfold Tx;exact aO [] bI
set_option maxHeartbeats 400000 in
theorem zr9 (l:List (Cel 2))(S:Nat->Prop)(v:Value)(w:World)(h:Sl w S 2 encC v l)(d:l.length<=1000000000) :
  Calls aA 73 #[v] w (K2 102 2 encC l w):=by
 have eok:EOk aA 58 102 2 16 (encC (n:=2)):=eokC (sz:=2) (Dd 58 _ rfl) rfl (Dd 102 _ rfl) (by omega) rfl;obtain ⟨A,c,rfl,f,_⟩:=h.form;have a:=fun (W:World)=>Lib.run_eql_slice_nil W 58 102 A l.length c 0 0 aB
 have H:=hide h;cases A with
 |none =>
  have g:l=[]:=h.none_nil;subst g;clear h H d f;simp only [aP,aD] at a ⊢
  go_enter aY,bJ
  go_wp2
  go_ret
  exact ⟨none,0,rfl,bC,by go_grown⟩
 |some ad =>
  clear h
  go_enter aY,bJ
  go_wp2_with (at_builtin;refine Jg rfl _ _ rfl eok rfl aE rfl (H.out.alloc _) (by simp;omega) (by omega) (by simp) ?_;intro A' i w1 b e _)
  go_ret
  exact ⟨A',i,rfl,b,(aE (sz:=2) (enc:=encC (n:=2))).grown ((Below.refl _ _).alloc (aC _) _) (aC _) (by simp) e⟩
theorem zcd {n a r}(b:Cc n a=some r):ConT E0 73 [.sl 2 (List.map Ae a)] 102 2 (List.map Ae r) (.row 0):=Ny rfl (B0 aY rfl rfl) zr9 b
theorem zqz {n a r}(b:Cc n a=some r):Con E0 false 73 [.sl 2 (List.map Ae a)] (.sl 2 (List.map Ae r)):=(zcd b).close rfl
instance zvp {n b a}:CI E0 (Nf n b a) true 216 [Ae b,aI a] aI:=by unfold Nf;exact aO [] Tryz.func216
instance zew {n d c}:CI E0 (Pq n d c) true 215 [.sl 2 (d.map Ae),aI c,.fn 216 []] (fun r=>.tup [aI r.1,.bool (r.2)]):=⟨fun {r} b=>by
 unfold Pq at b;refine cw Tryz.func215 ?_;repeat' first
  |refine AW.step ?_;conv=>whnf
  |refine Aa.o b (fun b=>?_) fun b=>?_
  |refine IdxX.A b fun x b=>?_
  |refine Af.I b fun a b=>?_
  |exact ⟨_,b,aG []⟩
  |refine ShX.o b (fun b=>?_)
  |refine Ax.I b (aG []) fun m v b=>?_
  |exact RetX.oB b⟩
set_option maxRecDepth 100000 in
set_option maxHeartbeats 1600000 in
theorem zj7 (l:List (Cel 2))(x:Cel 2)(i:Nat)(base:Nat)(A:Option Addr)(c g off c1:Nat)(w:World)(ho:Own w base 102 2 encC (.slice A l.length c) l)
  (N:Xk w g off (encC x)) (bo:1<=c1) (J:(Value.slice A l.length c).ownBlock≠some g) (hi:i<=l.length) (hl:l.length<=1000000000) (C:base<=w.heap.size) :
  Calls aA 217 #[.slice A l.length c,.int .i64 i,.slice (some ⟨g,off,none⟩) 1 c1] w (zzu 102 2 encC base (.slice A l.length c) (l.take i++x::l.drop i) w):=by
 have k:(l.take i++x::l.drop i).length=l.length+1:=by simp;omega
 have d:(encC x).length=2:=x.2.1;have eok:EOk aA 58 102 2 16 (encC (n:=2)):=eokC (sz:=2) (Dd 58 _ rfl) rfl (Dd 102 _ rfl) (by omega) rfl;by_cases bh:i=l.length
 ·subst bh;have bd:Hid (Sl w (fun _=>True) 2 encC (.slice (some ⟨g,off,none⟩) 1 c1) [x]):=Sl.one_x bo N;have H:=hide ho;have bg:Hid (l.take l.length++x::l.drop l.length=l++[x]):=by simp [Hid]
  have hc:l.length<=c:=by obtain ⟨_,_,he,h1,_⟩:=ho.val;injection he with _ _ hc;omega
  rw [bg.out];clear ho N J k
  go_enter aK,aN
  go_wp2_with (at_builtin;refine Jg (v:=.slice A l.length c) rfl _ _ rfl eok rfl H.out rfl bd.out (by simp;omega) (by omega) C ?_;intro A2 c2 w2 bf o aa)
  all_goals (go_ret;exact ⟨A2,c2,by simp,bf,by cases A<;>exact o,by cases A<;>exact aa⟩)
 ·rcases ho.2 with ⟨hv,h0⟩|⟨h,cn,r,hv,ar,hh,bx,aq,B,m⟩
  ·omega
  injection hv with hA _ bn
  subst hA;subst bn;have bk:h≠g:=fun e=>J (by simp [Value.ownBlock,e])
  have bz:i<l.length:=by omega
  have ad:((l.take i).flatMap encC).length=i*2:=by rw [zak (sz:=2) (fun y=>y.2.1)];simp;omega
  have L:((l.drop i).flatMap encC).length=(l.length-i)*2:=by rw [zak (sz:=2) (fun y=>y.2.1)];simp
  have E:(l.take i).flatMap encC++(l.drop i).flatMap encC=l.flatMap encC:=by rw [<-flatMap_append,aX]
  have p:(l.take i++x::l.drop i).flatMap encC=(l.take i).flatMap encC++encC x++(l.drop i).flatMap encC:=by simp [flatMap_append,flatMap_cons]
  have h2:=zqk eok.one (l.drop i);have K:=eok.one x;have P:r.toList=(l.take i).flatMap encC++(l.drop i).flatMap encC++r.toList.drop (l.length*2):=by rw [E,<-m,aX]
  generalize ch:(l.take i).flatMap encC=F1 at *;generalize cg:(l.drop i).flatMap encC=F2 at *;generalize hX:encC x=X at *;have av:(r.toList.drop (l.length*2)).length=c*2-l.length*2:=by simp [B]
  generalize r.toList.drop (l.length*2)=R at *;obtain ⟨r⟩:=r;simp only at P;subst P;generalize hn:l.length=n at *;by_cases V:n+1<=c
  ·have bj:(i:Int)<(n:Int):=by omega
   have f:Blk w h 102 (F1++F2++R).toArray:=hh;have bw:∀ lb cb,(callFunc 243 #[.slice (some ⟨g,off,none⟩) 1 c1,.slice (some ⟨h,(i+1)*2,none⟩) lb cb]).run aA w=.ok (.value (.bool false)) w:=fun lb cb=>by
    rw [run_callFunc_extern Tryz.func243 (by kernel_rfl) (by kernel_rfl) (by kernel_rfl) (e:=Extern.SlicesOverlaps.overlaps #[58,58] #[4]) (by kernel_rfl),
     zfj w 58 4 102 aB 2 (fun _=>by kernel_rfl) ⟨g,off,none⟩ ⟨h,(i+1)*2,none⟩ 1 c1 lb cb (fun e=>bk e.symm) N.shape 102 (F1++F2++R).toArray.size (f.shape) (by rw [size_toArray,length_append,length_append];omega) (f.frozen _) (f.frozen _)]
    rfl
   have bt:=hide f;have bb:=hide N;have bm:Hid (F2.length=aQ (n+1-i) (n-i)*2):=by unfold Hid;rw [show aQ (n+1-i) (n-i)=n-i from Nat.min_eq_right (by omega)];exact L
   have s:Hid (∀ (W:World),W.heap=w.heap->∀ j u,F2[j]? = some u->W.cell? ((⟨h,i*2,none⟩:Addr).add j)=some u):=fun W hW j u I=>by
    have e:Blk W h 102 (F1++F2++R).toArray:=by unfold Blk;rw [hW];exact f
    rw [Addr.add_lit,e.cell];have hj:=(List.getElem?_eq_some_iff.1 I).1;simp only [aJ];rw [aU,aM (by omega),aF (by omega),show i*2+j-F1.length=j by omega];exact I
   have bq:=hide h2;have HL:=hide (aH k (aH p (aH ar B)));have d:=hide d;clear N f hh m J E B ho h2 k p
   go_enter aK,aN
   go_wp2_with fail
   have T:IntKind.i64.wrap ((i:Int)+1)=(i:Int)+1:=by rw [IntKind.wrap_i64];omega
   have ab:(0:Int)<=(i:Int)+1:=by omega
   have bi:i<=n:=by omega
   have U:((i:Int)+1).toNat=i+1:=by omega
   have aa:¬(c=i+1):=by omega
   have au:(i:Int)<=(n:Int)+1:=by omega
   have cj:¬(c=i):=by omega
   go_region_law (refine zb0 rfl _ _ 58 58 rfl 102 2 aB (by kernel_rfl) h ((i+1)*2) (n-i) (c-(i+1)) (n+1-i) (c-i) ⟨h,i*2,none⟩ (by simp [Act.eval,Act.put]) (by simp [Act.eval,Act.put]) 102 (F1++F2++R) bt.out F2 bm.out (s.out _ rfl) (by simp;omega) bq.out ?_;intro w1 F Y)
   clear T ab U aa;have az:Hid (Blk w1 h 102 ((F1++F2++R).take (i*2+2)++F2++(F1++F2++R).drop (i*2+2+F2.length)).toArray):=by
    have e:(i+1)*2=i*2+2:=by omega
    rw [e] at F;exact F
   have ac:Hid (∀ j u,X[j]? = some u->w1.cell? ((⟨g,off,none⟩:Addr).add j)=some u):=fun j u I=>by
    have e:Xk w1 g off X:=Xk.grown (w:=w.drew) bb.out Y (by simp;omega);rw [Addr.add_lit];exact e.cell I
   have ap:=hide (z0t Y);have D:=hide K;clear F Y K
   go_wp2_with (refine z8f rfl (.tmp 80) (.tmp 81) 58 58 rfl 102 2 aB (by kernel_rfl) h (i*2) (n+1-i) (c-i) 1 c1 ⟨g,off,none⟩ rfl rfl 102 _ az.out X (by rw [show aQ 1 (n+1-i)=1 from bA (by omega)];exact d.out) ac.out (by have:=d.out;have:=av;simp;omega) D.out ?_;intro w2 M o)
   go_ret
   have a:=HL.out;refine ⟨some ⟨h,0,none⟩,c,by show Ending.returned (.slice (some ⟨h,0,none⟩) (n+1) c)=_;rw [a.1],Own.of_blk M a.2.2.1 (by rw [a.1];exact V) aq (by have:=d.out;have:=av;simp;omega) ?_ (fun y=>y.2.1),zb5 ap.out o,Or.inl rfl⟩;rw [a.1,a.2.1,<-zee F1 F2 R X (i*2) 2 ((n-i)*2) ad L d.out (by omega)];congr 1;omega
  ·have f:Blk w h 102 (F1++F2++R).toArray:=hh;obtain ⟨i0,z,al,ah,af,S,ag⟩:=eok.inf;have ak:i+(n+1-i)=n+1:=by omega
   have aj:(n:Int)+1-(i:Int)=((n+1-i:Nat):Int):=by omega
   have ce:h < w.heap.size:=f.lt;have cd:g<w.heap.size:=N.lt;have O:(Builtin.firstCells i0.size i (.slice (some ⟨h,0,none⟩) i c)).run aA w.drew=.ok F1.toArray w.drew:=by
    rw [af];refine run_firstCells_some w.drew 2 i ⟨h,0,none⟩ i c F1 ad (fun j v hj=>?_);have ca:=(List.getElem?_eq_some_iff.1 hj).1;rw [Addr.add_lit];refine (f.cell _).trans ?_;simp only [aJ,Nat.zero_add];rw [aU,aF (by omega)];exact hj
   have t:=fun ty=>Lib.run_append_grow_zeros w 58 3 ty 102 i0 z .i64 .i64 eok.und Tryz.underlying3 al ah (some ⟨h,0,none⟩) i c F1 O (n+1-i) (by omega) (by omega) (by omega) (by omega) (by rw [S];omega) (by rw [S,ak];exact growslice_fits (by omega) (by omega))
   rw [ak] at t;obtain ⟨G,hG⟩:∃ G,G=grownCap w (n+1) c 102:=⟨_,rfl⟩;rw [<-hG] at t;have br:n+1<=G:=by rw [hG];exact grownCap_ge w _ _ _
   have Q:G<=maxLen:=by rw [hG];exact grownCap_le_maxLen w (n+1) c 102 (by unfold maxLen;omega)
   obtain ⟨Z,hZ,ck⟩:∃ Z:List Value,F1.toArray++Builtin.zeroCells z.cells (n+1-i)++Builtin.zeroCells z.cells (G-(n+1))=(F1++Z).toArray/\Z.length=(G-i)*2 :=
    ⟨(Builtin.zeroCells z.cells (n+1-i)).toList++(Builtin.zeroCells z.cells (G-(n+1))).toList,by simp [Array.append_assoc],by simp [size_zeroCells,ag];omega⟩
   rw [hZ] at t;obtain ⟨W1,q⟩:∃ W1,W1=w.drew.alloc (.cells (F1++Z).toArray 102):=⟨_,rfl⟩;have bs:Hid (Blk W1 w.heap.size 102 (F1++Z).toArray):=by rw [q];exact Blk.new w.drew _ _
   have ba:Hid (Xk W1 g off X):=by rw [q];exact Xk.alloc (w:=w.drew) N _
   have F:Hid (Blk W1 h 102 (F1++F2++R).toArray):=by rw [q];exact Blk.alloc (w:=w.drew) f _
   have bl:Hid (∀ b,W1.grownBy b (some w.heap.size)->∀ row,w.grownBy b row):=fun b hb row=>by
    rw [q] at hb;exact z0t (zb6 hb row)
   have ai:Hid (∀ ty,(Builtin.append_ #[58,3] ty #[.slice (some ⟨h,0,none⟩) i c,.int .i64 ((n:Int)+1-(i:Int))]).run aA w=.ok (.slice (some ⟨w.heap.size,0,none⟩) (n+1) G) W1):=fun ty=>by
    rw [aj,q];exact t ty
   have ac:Hid (∀ j u,X[j]? = some u->W1.cell? ((⟨g,off,none⟩:Addr).add j)=some u):=fun j u I=>by
    rw [Addr.add_lit];exact ba.out.cell I
   have HL:=hide (aH k (aH p (aH ar B)));have d:=hide d;have D:=hide K;have bu:=hide h2;have aw:Hid (F2.length=aQ (n-i) (n-i)*2):=by unfold Hid;rw [show aQ (n-i) (n-i)=n-i from Nat.min_self _];exact L
   have bj:(i:Int)<(n:Int):=by omega
   have cc:(c:Int)<(n:Int)+1:=by omega
   have bi:i<=n:=by omega
   have ci:¬(c=i):=by omega
   have cm:¬(G=i):=by omega
   have bv:¬(G=i+1):=by omega
   have cl:G<=9223372036854775807:=by unfold maxLen at Q;omega
   clear N f hh m J E B ho h2 k p K t O q hZ hG aj af S ag ah al aq
   go_enter aK,aN
   go_wp2_with (first|(at_builtin;refine Lib.wpList_append_run _ rfl _ _ _ _ rfl _ _ rfl rfl _ _ (ai.out _) ?_)|(refine z8f rfl (.tmp 43) (.tmp 44) 58 58 rfl 102 2 aB (by kernel_rfl) w.heap.size (i*2) (n+1-i) (G-i) 1 c1 ⟨g,off,none⟩ rfl rfl 102 _ bs.out X (by rw [show aQ 1 (n+1-i)=1 from bA (by omega)];exact d.out) ac.out (by have:=d.out;simp;omega) D.out ?_;intro w2 M o))
   have cf:h≠w.heap.size:=by omega
   have s:Hid (∀ j u,F2[j]? = some u->w2.cell? ((⟨h,i*2,none⟩:Addr).add j)=some u):=fun j u I=>by
    have e:Blk w2 h 102 (F1++F2++R).toArray:=F.out.grown o (by simp;omega);rw [Addr.add_lit,e.cell];have hj:=(List.getElem?_eq_some_iff.1 I).1;simp only [aJ];rw [aU,aM (by omega),aF (by omega),show i*2+j-F1.length=j by omega];exact I
   have ao:=hide o;have ay:=hide M;have T:IntKind.i64.wrap ((i:Int)+1)=(i:Int)+1:=by rw [IntKind.wrap_i64];omega
   have ab:(0:Int)<=(i:Int)+1:=by omega
   have U:((i:Int)+1).toNat=i+1:=by omega
   have au:(i:Int)<=(n:Int):=by omega
   have bp:(i:Int)+1<=(n:Int)+1:=by omega
   clear o M
   go_region_law (refine zb0 rfl _ _ 58 58 rfl 102 2 aB (by kernel_rfl) w.heap.size ((i+1)*2) (n-i) (G-(i+1)) (n-i) (c-i) ⟨h,i*2,none⟩ (by simp [Act.eval,Act.put]) (by simp [Act.eval,Act.put]) 102 _ ay.out F2 aw.out s.out (by have:=d.out;simp;omega) bu.out ?_;intro w3 ae an)
   clear T ab U au bp;have ax:Hid (Blk w3 w.heap.size 102 (((F1++Z).take (i*2)++X++(F1++Z).drop (i*2+X.length)).take (i*2+2)++F2++((F1++Z).take (i*2)++X++(F1++Z).drop (i*2+X.length)).drop (i*2+2+F2.length)).toArray):=by
    have e:(i+1)*2=i*2+2:=by omega
    rw [e] at ae;exact ae
   have am:=hide (z0t an);clear ae an
   go_wp2
   go_ret
   have a:=HL.out;have bc:=d.out;refine ⟨some ⟨w.heap.size,0,none⟩,G,by show Ending.returned (.slice (some ⟨w.heap.size,0,none⟩) (n+1) G)=_;rw [a.1],Own.of_blk ax.out C (by rw [a.1];exact br) Q (by simp;omega) ?_ (fun y=>y.2.1),bl.out _ (zb5 ao.out am.out) _,aV rfl⟩;rw [a.1,a.2.1,<-znb F1 F2 Z X (i*2) 2 ((n-i)*2) ad L bc (by omega)];congr 1;omega
theorem zgl {n a v r i}(b:T6 n a i v=some r):ConC false E0 217 [.row 0,aI i,.sl 2 (List.map Ae v)] 102 2 (List.map Ae a) 102 2 (List.map Ae r) (.row 0):=zv5 rfl (B0 aK rfl rfl) (by omega) zj7 b
end
noncomputable section
abbrev zdc {n d a b}:=li (Jh n d a b) (fun c=>⟨[(2,aI d),(7,.row 7013),(14,.sl 1 (a.map aI)),(15,aI (((a.map aI).length:Int))),(16,aI c.1)],[(7013,.row 102 2 (c.2.map Ae))]⟩) fun _ _=>Jh.eq_2 ..
abbrev z2d {n b a c}:=li (P4 n b a c) (fun d=>⟨[(0,.sl 2 (a.map Ae)),(1,.fn 219 [.ref (Ze b)]),(7,aI (((a.map Ae).length:Int))),(8,aI d)],[]⟩) fun _ _=>P4.eq_2 ..
abbrev zdf {n e a f b c}:=jf (Nb n e a f b c) (fun d=>⟨[(0,.sl 2 (f.map Ae)),(2,aI e),(10,.sl 2 (a.map Ce)),(11,aI (((a.map Ce).length:Int))),(12,aI b),(32,.bool (d))],[]⟩) fun _=>Nb.eq_1 ..
abbrev zde {n d a e b}:=li (Ji n d a e b) (fun c=>⟨[(0,.sl 2 (e.map Ae)),(2,aI d),(10,.sl 2 (a.map Ce)),(11,aI (((a.map Ce).length:Int))),(12,aI c)],[]⟩) fun _ _=>Ji.eq_2 ..
abbrev z2c {n b a c}:=li (P3 n b a c) (fun d=>⟨[(0,.sl 2 (a.map Ae)),(1,.fn 194 [.ref (C7 b)]),(7,aI (((a.map Ae).length:Int))),(8,aI d)],[]⟩) fun _ _=>P3.eq_2 ..
abbrev z7w {n c}:=li (M7 n c) (fun b=>⟨[(0,.row 200001),(1,.fn 194 [.ptr 100000 0]),(5,aI b.1),(6,aI b.2.1)],[(100000,.box 115 [aI b.2.2.1,aI b.2.2.2.1,aI b.2.2.2.2.1,aI b.2.2.2.2.2.1,aI b.2.2.2.2.2.2.1,.sl 8 (b.2.2.2.2.2.2.2.1.map idA),aI b.2.2.2.2.2.2.2.2.1,aI b.2.2.2.2.2.2.2.2.2.1,aI b.2.2.2.2.2.2.2.2.2.2.1,aI b.2.2.2.2.2.2.2.2.2.2.2.1,aI b.2.2.2.2.2.2.2.2.2.2.2.2.1,.str (b.2.2.2.2.2.2.2.2.2.2.2.2.2.1),.sl 1 (b.2.2.2.2.2.2.2.2.2.2.2.2.2.2.1.map aI),.sl 1 (b.2.2.2.2.2.2.2.2.2.2.2.2.2.2.2.1.map aI),.sl 8 (b.2.2.2.2.2.2.2.2.2.2.2.2.2.2.2.2.1.map idA),.sl 2 (b.2.2.2.2.2.2.2.2.2.2.2.2.2.2.2.2.2.1.map Ce),.sl 1 (b.2.2.2.2.2.2.2.2.2.2.2.2.2.2.2.2.2.2.1.map aI)]),(200001,.row 102 2 (b.2.2.2.2.2.2.2.2.2.2.2.2.2.2.2.2.2.2.2.map Ae))]⟩) fun _ _=>M7.eq_2 ..
abbrev z57 {n f a g e c b}:=li (Qa n f a g e c b) (fun d=>⟨[(6,.ptr 6 0),(7,.ptr 7 0),(9,.ptr 9 0),(10,.ptr 10 0),(12,.row 52),(13,.ptr 13 0),(81,.sl 8 (a.fChecks.map idA)),(82,aI (((a.fChecks.map idA).length:Int))),(83,aI d)],[(6,.box 60 (Bl g)),(7,.box 115 (C7 a)),(9,.box 71 (Bx f)),(10,.box 60 [aI 0,.nils,.nils]),(13,.box 220 [.row 63]),(52,.row 102 2 (e.map Ae)),(63,.row 26 1 (List.map (fun q=>AV.sl 5 (List.map A6 q)) (c)))]⟩) fun _ _=>Qa.eq_2 ..
abbrev z58 {n a c d e}:=jf (Fv n a c d e) (fun b=>⟨[(6,.ptr 6 0),(7,.ptr 7 0),(8,.ptr 8 0),(9,.ptr 9 0),(10,.ptr 10 0),(44,.bool (b))],[(6,.box 60 (Bl e)),(7,.box 115 (C7 d)),(8,.box 220 (Dl c)),(9,.box 71 (Bx a)),(10,.box 60 [aI 0,.nils,.nils])]⟩) fun _=>Fv.eq_1 ..
attribute [instance] zdc z2d zdf zde z2c z7w z57 z58
def z9c (r:(List Ak)):AV:=.row 0
theorem zf1 {n e d c r}(b:Wl n e d c=some r):ConT E0 189 [.sl 2 (e.map Ae),.sl 1 (d.map aI),aI c] 102 2 (r.map Ae) (z9c r):=by
 unfold Wl at b;refine ConT.walk _ bK rfl (B0 bK rfl rfl) rfl rfl ?_;repeat' first
  |refine AW.jI2 b (fun v b=>?_) fun b=>?_
  |refine AW.regO b fun b=>?_
  |refine AW.stepU [6] ?_;conv=>whnf
  |refine Aa.o b (fun b=>?_) fun b=>?_
  |refine Af.oR b (fun r=>r) Ae (fun _=>AV.row 0) rfl (fun a h=>zcd h) (fun a b=>?_)
  |refine IdxX.A b fun x b=>?_
  |refine B9.I b (fun a b=>?_) rfl rfl fun _=>aV rfl
  |refine NatX.o b (fun m b=>?_)
  |refine LtX.o b (fun b=>?_)
  |refine SetX.o Ae b (fun x=>rfl) (fun x=>(by first|exact SubL.refl _|(repeat' first|exact SubL.nil|refine SubL.cons ?_ ?_|exact Sub.refl _|exact Sub.nil _|refine Sub.agg ?_))) (fun l b=>?_)
  |exact ⟨_,b,aG [(7013,7033)]⟩
  |refine B9.oC b 7013 (fun r=>r) Ae (fun _=>AV.row 0) rfl (fun a h=>zgl h) rfl rfl rfl rfl rfl rfl (fun a b=>?_)
  |exact ⟨_,b,aG [(7033,33)]⟩
  |exact ⟨_,b,aG [(7033,7013)]⟩
  |refine Ax.I b ?_ fun m v b=>?_
  |exact aG [(7013,13)]
  |refine TX.o (rl:=fun r=>r.map Ae) (res:=z9c) b ?_;exact TX.mk _ 7013 (LeX.refl _ _ _) _ rfl rfl (by repeat' first|exact Sub.nil _|exact Sub.refl _|refine Sub.agg ?_|refine Sub.tup ?_|refine Sub.fn ?_|exact SubL.nil|refine SubL.cons ?_ ?_|refine Sub.sl _ ?_|exact SubE.nil|refine SubE.cons ?_ ?_)
instance zvq {n b a}:CI E0 (Wd n b a) true 219 [Ae b,.ref (Ze a)] (fun r=>.bool (r)):=by unfold Wd;exact aO [] Tryz.func219
instance zgc {n a b}:CI E0 (Ub n a b) true 218 [.sl 2 (a.map Ae),.fn 219 [.ref (Ze b)]] aI:=by unfold Ub;exact aO [] bL
instance zzz {n e d c}:CI E0 (Wm n e d c) true 190 [.sl 2 (e.map Ae),.sl 2 (d.map Ce),aI c] (fun r=>.bool (r)):=⟨fun {r} b=>by
 unfold Wm at b;refine cw Tryz.func190 ?_;repeat' first
  |refine AW.jI b (fun v b=>?_) fun b=>?_
  |refine AW.regO b fun b=>?_
  |refine AW.stepU [5] ?_;conv=>whnf
  |refine Aa.o b (fun b=>?_) fun b=>?_
  |refine IdxX.A b fun x b=>?_
  |refine B9.I b (fun a b=>?_) rfl rfl fun _=>aV rfl
  |exact ⟨_,b,aG []⟩
  |refine Ax.I b (aG []) fun m v b=>?_
  |refine AndA ?_
  |exact RetX.oB b⟩
set_option maxHeartbeats 400000 in
theorem zoj (l:List (Cel 1))(S:Nat->Prop)(v:Value)(w:World)(h:Sl w S 1 encC v l)(d:l.length<=1000000000) :
  Calls aA 191 #[v] w (K2 26 1 encC l w):=by
 have eok:EOk aA 218 26 1 24 (encC (n:=1)):=eokC (sz:=1) (Dd 218 _ rfl) rfl (Dd 26 _ rfl) (by omega) rfl;obtain ⟨A,c,rfl,f,_⟩:=h.form;have a:=fun (W:World)=>Lib.run_eql_slice_nil W 218 26 A l.length c 0 0 Tryz.underlying218
 have H:=hide h;cases A with
 |none =>
  have g:l=[]:=h.none_nil;subst g;clear h H d f;simp only [aP,aD] at a ⊢
  go_enter aR,bD
  go_wp2
  go_ret
  exact ⟨none,0,rfl,bC,by go_grown⟩
 |some ad =>
  clear h
  go_enter aR,bD
  go_wp2_with (at_builtin;refine Jg rfl _ _ rfl eok rfl aE rfl (H.out.alloc _) (by simp;omega) (by omega) (by simp) ?_;intro A' i w1 b e _)
  go_ret
  exact ⟨A',i,rfl,b,(aE (sz:=1) (enc:=encC (n:=1))).grown ((Below.refl _ _).alloc (aC _) _) (aC _) (by simp) e⟩
theorem zke {n a r}(b:Cc n a=some r):ConT E0 191 [.sl 1 (List.map (fun q=>AV.sl 5 (List.map A6 q)) a)] 26 1 (List.map (fun q=>AV.sl 5 (List.map A6 q)) r) (.row 0):=Ny rfl (B0 aR rfl rfl) zoj b
set_option maxHeartbeats 400000 in
theorem zoi (l:List (Cel 5))(S:Nat->Prop)(v:Value)(w:World)(h:Sl w S 5 encC v l)(d:l.length<=1000000000) :
  Calls aA 192 #[v] w (K2 71 5 encC l w):=by
 have eok:EOk aA 26 71 5 56 (encC (n:=5)):=eokC (sz:=5) (Dd 26 _ rfl) rfl (Dd 71 _ rfl) (by omega) rfl;obtain ⟨A,c,rfl,f,_⟩:=h.form;have a:=fun (W:World)=>Lib.run_eql_slice_nil W 26 71 A l.length c 0 0 Tryz.underlying26
 have H:=hide h;cases A with
 |none =>
  have g:l=[]:=h.none_nil;subst g;clear h H d f;simp only [aP,aD] at a ⊢
  go_enter aS,bE
  go_wp2
  go_ret
  exact ⟨none,0,rfl,bC,by go_grown⟩
 |some ad =>
  clear h
  go_enter aS,bE
  go_wp2_with (at_builtin;refine Jg rfl _ _ rfl eok rfl aE rfl (H.out.alloc _) (by simp;omega) (by omega) (by simp) ?_;intro A' i w1 b e _)
  go_ret
  exact ⟨A',i,rfl,b,(aE (sz:=5) (enc:=encC (n:=5))).grown ((Below.refl _ _).alloc (aC _) _) (aC _) (by simp) e⟩
theorem zkd {n a r}(b:Cc n a=some r):ConT E0 192 [.sl 5 (List.map A6 a)] 71 5 (List.map A6 r) (.row 0):=Ny rfl (B0 aS rfl rfl) zoi b
instance zgf {n b a}:CI E0 (Lp n b a) true 194 [Ae b,.ref (C7 a)] (fun r=>.bool (r)):=by unfold Lp;exact aO [] aT
instance zgb {n a b}:CI E0 (Ua n a b) true 218 [.sl 2 (a.map Ae),.fn 194 [.ref (C7 b)]] aI:=by unfold Ua;exact aO [] bL
def z1a (b:Ak)(a:B5):List (Nat×Ent):=[(100000,.box 115 (C7 a))]
def Xv (r:Bool×B5):List (Nat×Ent):=[(100000,.box 115 (C7 r.2))]
def z00 (r:Bool×B5):AV:=.bool (r.1)
def z18 (r:Bool×B5):AS:=⟨[(3,.bool (r.1)),(1,.ptr 100000 0)],Xv r⟩
theorem z0x {n c d r}(b:Ov n c d=some r):ConG E0.P none (CalF E0.P 194 0) [Ae c,.ptr 100000 0] [] (z1a c d) (z00 r) (Xv r):=by
 unfold Ov at b;refine ConG.walk (E:=(E0p 2)) (caps:=[]) _ aT rfl rfl rfl rfl rfl ?_;repeat' first
  |refine AW.step ?_;conv=>whnf
  |refine Af.I b fun a b=>?_
  |exact GX.A (res:=z00) (meF:=Xv) b z18
def zay (b:B5)(a:(List Ak)):List (Nat×Ent):=[(100000,.box 115 (C7 b)),(200001,.row 102 2 (a.map Ae))]
def V3 (r:(List Ak)×B5):List (Nat×Ent):=[(260000,.row 102 2 (r.1.map Ae)),(100000,.box 115 (C7 r.2))]
def Yu (r:(List Ak)×B5):AV:=.row 260000
def z1t (r:(List Ak)×B5):AS:=⟨[(4,.row 260000),(1,.fn 194 [.ptr 100000 0])],V3 r⟩
theorem z8t {n d c r}(b:Vf n d c=some r):ConG E0.P none (CalF E0.P 193 0) [.row 200001,.fn 194 [.ptr 100000 0]] [] (zay d c) (Yu r) (V3 r):=by
 unfold Vf at b;refine ConG.walk (E:=(E0p 2)) (caps:=[]) _ Tryz.func193 rfl rfl rfl rfl rfl ?_;repeat' first
  |refine AW.step ?_;conv=>whnf
  |refine Aa.o b (fun b=>?_) fun b=>?_
  |refine B9.I b (fun a b=>?_) rfl rfl fun _=>aV rfl
  |refine GX.o (res:=Yu) (meF:=V3) b ?_;exact GX.mk (z1t _) (aG [(260000,200001)]) rfl _ rfl (by repeat' first|exact Sub.nil _|exact Sub.refl _|refine Sub.agg ?_|refine Sub.tup ?_|refine Sub.fn ?_|exact SubL.nil|refine SubL.cons ?_ ?_|refine Sub.sl _ ?_|exact SubE.nil|refine SubE.cons ?_ ?_) [100000] ⟨aV ⟨1,0,_,_,_,_,_,aL rfl,rfl,rfl,rfl,rfl,rfl⟩,trivial⟩ rfl
  |refine OpX.sub b rfl rfl rfl rfl rfl rfl rfl rfl rfl rfl (fun m b=>?_)
  |refine OpX.clr Ae b rfl rfl rfl rfl rfl rfl rfl rfl rfl rfl rfl (by first|exact SubL.refl _|(repeat' first|exact SubL.nil|refine SubL.cons ?_ ?_|exact Sub.refl _|exact Sub.nil _|refine Sub.agg ?_)) (fun l b=>?_)
  |refine SlsX.o Ae b (fun l b=>?_)
  |refine GX.o (res:=Yu) (meF:=V3) b ?_;exact GX.mk (z1t _) (aG [(260000,41)]) rfl _ rfl (by repeat' first|exact Sub.nil _|exact Sub.refl _|refine Sub.agg ?_|refine Sub.tup ?_|refine Sub.fn ?_|exact SubL.nil|refine SubL.cons ?_ ?_|refine Sub.sl _ ?_|exact SubE.nil|refine SubE.cons ?_ ?_) [100000] ⟨aV ⟨1,0,_,_,_,_,_,aL rfl,rfl,rfl,rfl,rfl,rfl⟩,trivial⟩ rfl
  |refine NatX.o b (fun m b=>?_)
  |refine EltX.o Ae b (fun x b=>?_)
  |refine B9.oM (Bm 28 b) [(100000,100000)] [(100000,100000)] _ _ Xv z00 [] (fun a h=>ConG.up (z0x h)) (B0 aT rfl rfl) rfl rfl rfl ⟨⟨rfl,rfl⟩,trivial⟩ (fun a=>⟨rfl,rfl,rfl,rfl,rfl,rfl,rfl,rfl⟩) (fun a b=>?_)
  |refine SetX.o Ae b (fun x=>rfl) (fun x=>(by first|exact SubL.refl _|(repeat' first|exact SubL.nil|refine SubL.cons ?_ ?_|exact Sub.refl _|exact Sub.nil _|refine Sub.agg ?_))) (fun l b=>?_)
  |exact ⟨_,b,aG []⟩
  |refine Ax.I b (aG []) fun m v b=>?_
  |refine EqX.A ?_
set_option maxHeartbeats 400000 in
theorem zra (l:List (Cel 4))(S:Nat->Prop)(v:Value)(w:World)(h:Sl w S 4 encC v l)(d:l.length<=1000000000) :
  Calls aA 72 #[v] w (K2 76 4 encC l w):=by
 have eok:EOk aA 42 76 4 32 (encC (n:=4)):=eokC (sz:=4) (Dd 42 _ rfl) rfl (Dd 76 _ rfl) (by omega) rfl;obtain ⟨A,c,rfl,f,_⟩:=h.form;have a:=fun (W:World)=>Lib.run_eql_slice_nil W 42 76 A l.length c 0 0 Tryz.underlying42
 have H:=hide h;cases A with
 |none =>
  have g:l=[]:=h.none_nil;subst g;clear h H d f;simp only [aP,aD] at a ⊢
  go_enter aZ,bM
  go_wp2
  go_ret
  exact ⟨none,0,rfl,bC,by go_grown⟩
 |some ad =>
  clear h
  go_enter aZ,bM
  go_wp2_with (at_builtin;refine Jg rfl _ _ rfl eok rfl aE rfl (H.out.alloc _) (by simp;omega) (by omega) (by simp) ?_;intro A' i w1 b e _)
  go_ret
  exact ⟨A',i,rfl,b,(aE (sz:=4) (enc:=encC (n:=4))).grown ((Below.refl _ _).alloc (aC _) _) (aC _) (by simp) e⟩
theorem zce {n a r}(b:Cc n a=some r):ConT E0 72 [.sl 4 (List.map Ar a)] 76 4 (List.map Ar r) (.row 0):=Ny rfl (B0 aZ rfl rfl) zra b
theorem zr0 {n a r}(b:Cc n a=some r):Con E0 false 72 [.sl 4 (List.map Ar a)] (.sl 4 (List.map Ar r)):=(zce b).close rfl
end
end Go.Proofs.YtidhlpjgifoneaaGreat
