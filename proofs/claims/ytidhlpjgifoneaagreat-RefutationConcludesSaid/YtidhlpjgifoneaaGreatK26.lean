/- What some functions compute, over plain values. -/
import Derived.Test.YtidhlpjgifoneaaGreatK25
set_option linter.unusedVariables false
set_option linter.unusedSimpArgs false
set_option maxRecDepth 100000
set_option maxHeartbeats 8000000
namespace Go.Proofs.YtidhlpjgifoneaaGreat
open Go.RowKit List
noncomputable section
abbrev z7o {n}:=jf (Lj n) (fun b=>⟨[(4,.ptr 4 0)],[(4,.box 109 [aI b.1,aI b.2.1,.str (b.2.2)])]⟩) fun _=>Lj.eq_1 ..
abbrev z3o {n b a a0f2 a0f1 a0f0 d}:=li (Ow n b a a0f2 a0f1 a0f0 d) (fun c=>⟨[(2,.ptr 2 0),(3,.ptr 3 0),(4,.ptr 4 0),(6,.row 7042),(7,.row 7047),(23,.sl 8 (a.fArgs.map idA)),(24,aI (((a.fArgs.map idA).length:Int))),(25,aI c.1)],[(2,.box 293 [.sl 1 (List.map (fun q=>AV.sl 5 (List.map A7 q)) (a0f0.fVars)),aI a0f1,aI a0f2.fSource,aI a0f2.fSeq,aI a0f2.fType,aI a0f2.fTime,.sl 3 (a0f2.fValues.map Af),.mapv [(aI 5,.fn 254 [.ref [.fn 253 []]]),(aI 6,.fn 255 [.ref [.fn 253 []]]),(aI 7,.fn 256 []),(aI 8,.fn 257 []),(aI 10,.fn 258 []),(aI 11,.fn 259 []),(aI 12,.fn 260 [])]]),(3,.box 111 (Cm a)),(4,.box 109 [aI 0,aI 0,.str (ByteArray.empty)]),(7042,.row 109 3 (c.2.1.map Af)),(7047,.row 3 1 (c.2.2.map aI))]⟩) fun _ _=>Ow.eq_2 ..
abbrev zdr {n}:=jf (Mm n) (fun b=>⟨[(8,.bool (b))],[]⟩) fun _=>Mm.eq_1 ..
abbrev zb4 {n}:=jf (Mb n) (fun b=>⟨[(6,.bool (b))],[]⟩) fun _=>Mb.eq_1 ..
abbrev z2f {n b c a d}:=li (O9 n b c a d) (fun e=>⟨[(0,.sl 11 (a.map Bc)),(1,.fn 158 [.ref (Dj c),.ref (Bu b)]),(7,aI (((a.map Bc).length:Int))),(8,aI e)],[]⟩) fun _ _=>O9.eq_2 ..
abbrev z2g {n}:=jf (Jt n) (fun b=>⟨[(5,.bool (b))],[]⟩) fun _=>Jt.eq_1 ..
abbrev z2e {n b c d a e}:=li (O8 n b c d a e) (fun f=>⟨[(0,.sl 11 (a.map Bc)),(1,.fn 188 [.ref (C6 d),.ref (Dj c),.ref (Bu b)]),(7,aI (((a.map Bc).length:Int))),(8,aI f)],[]⟩) fun _ _=>O8.eq_2 ..
abbrev z1b {n d a b}:=li (Jm n d a b) (fun c=>⟨[(0,.sl 2 (a.map Ae)),(1,aI d),(2,.fn 216 []),(8,aI (((a.map Ae).length:Int))),(9,aI c.1),(10,aI c.2)],[]⟩) fun _ _=>Jm.eq_2 ..
abbrev zcg {n f a b c d}:=jt (Mi n f a b c d) (fun e=>⟨[(2,aI f),(7,.row 7033),(10,aI d.1),(14,.sl 1 (a.map aI)),(15,aI (((a.map aI).length:Int))),(16,aI b.1)],[(7033,.row 102 2 (e.map Ae))]⟩) fun _=>Mi.eq_1 ..
attribute [instance] z7o z3o zdr zb4 z2f z2g z2e z1b zcg
instance zmf {n b a}:CI E0 (Um n b a) true 258 [aI b,aI a] Af:=by unfold Um;exact CI.w [1] Tryz.func258
instance zme {n b a}:CI E0 (Ul n b a) true 259 [aI b,aI a] Af:=by unfold Ul;exact CI.w [1] Tryz.func259
instance zmd {n b a}:CI E0 (M5 n b a) true 260 [aI b,aI a] Af:=by unfold M5;exact CI.w [] Tryz.func260
def z7v (r:Aa×Int):AV:=.tup [.agg [aI (r.1.fKind),aI (r.1.fNum),.str (r.1.fText)],aI (r.2)]
theorem z2m {n a0f0 a0f1 a0f2 c r}(b:Gw n a0f0 a0f1 a0f2 c=some r):Con E0 true 241 [.agg [.sl 1 (List.map (fun q=>AV.sl 5 (List.map A7 q)) (a0f0.fVars)),aI a0f1,aI a0f2.fSource,aI a0f2.fSeq,aI a0f2.fType,aI a0f2.fTime,.sl 3 (a0f2.fValues.map Af),.mapv [(aI 5,.fn 254 [.ref [.fn 253 []]]),(aI 6,.fn 255 [.ref [.fn 253 []]]),(aI 7,.fn 256 []),(aI 8,.fn 257 []),(aI 10,.fn 258 []),(aI 11,.fn 259 []),(aI 12,.fn 260 [])]],Ar c] (.tup [Af r.1,aI r.2]):=by
 induction n generalizing a0f0 a0f1 a0f2 c r
 case zero=>cases b
 case succ n d =>
 unfold Gw at b;refine cw Tryz.func241 ?_;repeat' first
  |refine AW.step ?_;conv=>whnf
  |refine A9.o b (fun b=>?_) fun b=>?_
  |refine Ad.I b fun a b=>?_
  |refine B7.I b (fun a b=>?_) rfl rfl fun _=>Or.inr rfl
  |refine NatX.o b (fun m b=>?_)
  |refine EltX.o Af b (fun x b=>?_)
  |refine OpX.lkc rfl rfl rfl rfl rfl rfl rfl rfl rfl rfl (by first|rfl|kernel_rfl) ?_
  |refine LkC.cons b (fun b=>?_) (fun b=>?_)
  |(cases b;done)
  |refine LtX.o b (fun b=>?_)
  |refine IdxX.oD b D6 (fun x b=>?_)
  |refine Ad.o b z7v (fun a h=>d h) (fun a b=>?_)
  |refine AppX.oA b fun l b=>?_
  |exact ⟨_,b,LeX.a [(7042,42),(7047,47)]⟩
  |refine Ax.I b ?_ fun m v b=>?_
  |exact LeX.trans (LeX.adopt 6 7042 109 3 rfl rfl) (LeX.trans (LeX.adopt 7 7047 3 1 rfl rfl) (LeX.a []))
  |refine AndA ?_
  |refine EqX.A ?_
  |exact RetX.oB b
instance zh4 {n a0f0 a0f1 a0f2 a}:CI E0 (Gw n a0f0 a0f1 a0f2 a) true 241 [.agg [.sl 1 (List.map (fun q=>AV.sl 5 (List.map A7 q)) (a0f0.fVars)),aI a0f1,aI a0f2.fSource,aI a0f2.fSeq,aI a0f2.fType,aI a0f2.fTime,.sl 3 (a0f2.fValues.map Af),.mapv [(aI 5,.fn 254 [.ref [.fn 253 []]]),(aI 6,.fn 255 [.ref [.fn 253 []]]),(aI 7,.fn 256 []),(aI 8,.fn 257 []),(aI 10,.fn 258 []),(aI 11,.fn 259 []),(aI 12,.fn 260 [])]],Ar a] (fun r=>.tup [Af r.1,aI r.2]):=⟨z2m⟩
instance zzj {n f e d c}:CI E0 (Y8 n f e d c) true 213 [Ar f,Di e,aI d,A7 c] (fun r=>.tup [Af r.1,aI r.2]):=⟨fun {r} b=>by
 unfold Y8 at b;refine cw Tryz.func213 ?_;repeat' first
  |refine AW.step ?_;conv=>whnf
  |refine A9.o b (fun b=>?_) fun b=>?_
  |refine Ad.I b fun a b=>?_
  |refine Ad.mk _ _ zab ?_
  |refine AndA ?_
  |exact RetX.oB b⟩
def zn2 (r:Bool):AV:=.bool (r)
instance zfj {n d c b a}:CI E0 (J4 n d c b a) true 187 [Ar d,Di c,aI b,A7 a] (fun r=>.bool (r)):=by unfold J4;exact CI.w [2] Tryz.func187
instance zt7 {n c b a}:CI E0 (Rp n c b a) true 159 [Bc c,Di b,A7 a] (fun r=>.bool (r)):=by unfold Rp;exact CI.w [1] Tryz.func159
instance zdz {n c b a}:CI E0 (K4 n c b a) true 158 [Bc c,.ref (Dj b),.ref (Bu a)] (fun r=>.bool (r)):=by unfold K4;exact CI.w [] Tryz.func158
instance zfd {n a b c}:CI E0 (Tj n a b c) true 181 [.sl 11 (a.map Bc),.fn 158 [.ref (Dj b),.ref (Bu c)]] aI:=by unfold Tj;exact CI.w [] Tryz.func181
instance zca {n a b c}:CI E0 (T2 n a b c) true 141 [.sl 11 (a.map Bc),.fn 158 [.ref (Dj b),.ref (Bu c)]] (fun r=>.bool (r)):=by unfold T2;exact CI.w [] Tryz.func141
instance zff {n d c b a}:CI E0 (I8 n d c b a) true 188 [Bc d,.ref (C6 c),.ref (Dj b),.ref (Bu a)] (fun r=>.bool (r)):=by unfold I8;exact CI.w [1] Tryz.func188
instance zfc {n a b c d}:CI E0 (Th n a b c d) true 181 [.sl 11 (a.map Bc),.fn 188 [.ref (C6 b),.ref (Dj c),.ref (Bu d)]] aI:=by unfold Th;exact CI.w [] Tryz.func181
instance zc9 {n a b c d}:CI E0 (T1 n a b c d) true 141 [.sl 11 (a.map Bc),.fn 188 [.ref (C6 b),.ref (Dj c),.ref (Bu d)]] (fun r=>.bool (r)):=by unfold T1;exact CI.w [] Tryz.func141
set_option maxHeartbeats 400000 in
theorem zpj (l:List (Cel 2))(S:Nat->Prop)(v:Value)(w:World)(h:Sl w S 2 encC v l)(d:l.length<=1000000000) :
  Calls Tryz.prog 73 #[v] w (Jg 102 2 encC l w):=by
 have eok:EOk Tryz.prog 58 102 2 16 (encC (n:=2)):=eokC (sz:=2) (De 58 _ rfl) rfl (De 102 _ rfl) (by omega) rfl;obtain ⟨A,c,rfl,f,_⟩:=h.form;have a:=fun (W:World)=>Lib.run_eql_slice_nil W 58 102 A l.length c 0 0 Tryz.underlying58
 have H:=hide h;cases A with
 |none =>
  have g:l=[]:=h.none_nil;subst g;clear h H d f;simp only [length_nil,Option.isNone_none] at a ⊢
  go_enter Tryz.func73,Tryz.ntmps73
  go_wp2
  go_ret
  exact ⟨none,0,rfl,Own.nil_,by go_grown⟩
 |some ad =>
  clear h
  go_enter Tryz.func73,Tryz.ntmps73
  go_wp2_with (at_builtin;refine Iy rfl _ _ rfl eok rfl Own.made_ rfl (H.out.alloc _) (by simp;omega) (by omega) (by simp) ?_;intro A' i w1 b e _)
  go_ret
  exact ⟨A',i,rfl,b,(Own.made_ (sz:=2) (enc:=encC (n:=2))).grown ((Below.refl _ _).alloc (Nat.le_refl _) _) (Nat.le_refl _) (by simp) e⟩
theorem zbx {n a r}(b:Ce n a=some r):ConT E0 73 [.sl 2 (List.map Ae a)] 102 2 (List.map Ae r) (.row 0):=N4 rfl (Aw Tryz.func73 rfl rfl) zpj b
theorem zp8 {n a r}(b:Ce n a=some r):Con E0 false 73 [.sl 2 (List.map Ae a)] (.sl 2 (List.map Ae r)):=(zbx b).close rfl
instance zt8 {n b a}:CI E0 (Mn n b a) true 216 [Ae b,aI a] aI:=by unfold Mn;exact CI.w [] Tryz.func216
instance zdy {n d c}:CI E0 (Ou n d c) true 215 [.sl 2 (d.map Ae),aI c,.fn 216 []] (fun r=>.tup [aI r.1,.bool (r.2)]):=⟨fun {r} b=>by
 unfold Ou at b;refine cw Tryz.func215 ?_;repeat' first
  |refine AW.step ?_;conv=>whnf
  |refine A9.o b (fun b=>?_) fun b=>?_
  |refine IdxX.A b fun x b=>?_
  |refine Ad.I b fun a b=>?_
  |exact ⟨_,b,LeX.a []⟩
  |refine ShX.o b (fun b=>?_)
  |refine Ax.I b (LeX.a []) fun m v b=>?_
  |exact RetX.oB b⟩
set_option maxRecDepth 100000 in
set_option maxHeartbeats 1600000 in
theorem zhp (l:List (Cel 2))(x:Cel 2)(i:Nat)(base:Nat)(A:Option Addr)(c g off c1:Nat)(w:World)(ho:Own w base 102 2 encC (.slice A l.length c) l)
  (N:Xk w g off (encC x)) (bo:1<=c1) (J:(Value.slice A l.length c).ownBlock≠some g) (hi:i<=l.length) (hl:l.length<=1000000000) (C:base<=w.heap.size) :
  Calls Tryz.prog 217 #[.slice A l.length c,.int .i64 i,.slice (some ⟨g,off,none⟩) 1 c1] w (zxb 102 2 encC base (.slice A l.length c) (l.take i++x::l.drop i) w):=by
 have k:(l.take i++x::l.drop i).length=l.length+1:=by simp;omega
 have d:(encC x).length=2:=x.2.1;have eok:EOk Tryz.prog 58 102 2 16 (encC (n:=2)):=eokC (sz:=2) (De 58 _ rfl) rfl (De 102 _ rfl) (by omega) rfl;by_cases bh:i=l.length
 ·subst bh;have bd:Hid (Sl w (fun _=>True) 2 encC (.slice (some ⟨g,off,none⟩) 1 c1) [x]):=Sl.one_x bo N;have H:=hide ho;have bg:Hid (l.take l.length++x::l.drop l.length=l++[x]):=by simp [Hid]
  have hc:l.length<=c:=by obtain ⟨_,_,he,h1,_⟩:=ho.val;injection he with _ _ hc;omega
  rw [bg.out];clear ho N J k
  go_enter Tryz.func217,Tryz.ntmps217
  go_wp2_with (at_builtin;refine Iy (v:=.slice A l.length c) rfl _ _ rfl eok rfl H.out rfl bd.out (by simp;omega) (by omega) C ?_;intro A2 c2 w2 bf o aa)
  all_goals (go_ret;exact ⟨A2,c2,by simp,bf,by cases A<;>exact o,by cases A<;>exact aa⟩)
 ·rcases ho.2 with ⟨hv,h0⟩|⟨h,cn,r,hv,ar,hh,bx,aq,B,m⟩
  ·omega
  injection hv with hA _ bn
  subst hA;subst bn;have bk:h≠g:=fun e=>J (by simp [Value.ownBlock,e])
  have bz:i<l.length:=by omega
  have ad:((l.take i).flatMap encC).length=i*2:=by rw [za3 (sz:=2) (fun y=>y.2.1)];simp;omega
  have L:((l.drop i).flatMap encC).length=(l.length-i)*2:=by rw [za3 (sz:=2) (fun y=>y.2.1)];simp
  have E:(l.take i).flatMap encC++(l.drop i).flatMap encC=l.flatMap encC:=by rw [<-flatMap_append,take_append_drop]
  have p:(l.take i++x::l.drop i).flatMap encC=(l.take i).flatMap encC++encC x++(l.drop i).flatMap encC:=by simp [flatMap_append,flatMap_cons]
  have h2:=zot eok.one (l.drop i);have K:=eok.one x;have P:r.toList=(l.take i).flatMap encC++(l.drop i).flatMap encC++r.toList.drop (l.length*2):=by rw [E,<-m,take_append_drop]
  generalize ch:(l.take i).flatMap encC=F1 at *;generalize cg:(l.drop i).flatMap encC=F2 at *;generalize hX:encC x=X at *;have av:(r.toList.drop (l.length*2)).length=c*2-l.length*2:=by simp [B]
  generalize r.toList.drop (l.length*2)=R at *;obtain ⟨r⟩:=r;simp only at P;subst P;generalize hn:l.length=n at *;by_cases V:n+1<=c
  ·have bj:(i:Int)<(n:Int):=by omega
   have f:Blk w h 102 (F1++F2++R).toArray:=hh;have bw:∀ lb cb,(callFunc 243 #[.slice (some ⟨g,off,none⟩) 1 c1,.slice (some ⟨h,(i+1)*2,none⟩) lb cb]).run Tryz.prog w=.ok (.value (.bool false)) w:=fun lb cb=>by
    rw [run_callFunc_extern Tryz.func243 (by kernel_rfl) (by kernel_rfl) (by kernel_rfl) (e:=Extern.SlicesOverlaps.overlaps #[58,58] #[4]) (by kernel_rfl),
     zei w 58 4 102 Tryz.underlying58 2 (fun _=>by kernel_rfl) ⟨g,off,none⟩ ⟨h,(i+1)*2,none⟩ 1 c1 lb cb (fun e=>bk e.symm) N.shape 102 (F1++F2++R).toArray.size (f.shape) (by rw [size_toArray,length_append,length_append];omega) (f.frozen _) (f.frozen _)]
    rfl
   have bt:=hide f;have bb:=hide N;have bm:Hid (F2.length=Nat.min (n+1-i) (n-i)*2):=by unfold Hid;rw [show Nat.min (n+1-i) (n-i)=n-i from Nat.min_eq_right (by omega)];exact L
   have s:Hid (∀ (W:World),W.heap=w.heap->∀ j u,F2[j]? = some u->W.cell? ((⟨h,i*2,none⟩:Addr).add j)=some u):=fun W hW j u I=>by
    have e:Blk W h 102 (F1++F2++R).toArray:=by unfold Blk;rw [hW];exact f
    rw [Addr.add_lit,e.cell];have hj:=(List.getElem?_eq_some_iff.1 I).1;simp only [getElem?_toArray];rw [append_assoc,getElem?_append_right (by omega),getElem?_append_left (by omega),show i*2+j-F1.length=j by omega];exact I
   have bq:=hide h2;have HL:=hide (And.intro k (And.intro p (And.intro ar B)));have d:=hide d;clear N f hh m J E B ho h2 k p
   go_enter Tryz.func217,Tryz.ntmps217
   go_wp2_with fail
   have T:IntKind.i64.wrap ((i:Int)+1)=(i:Int)+1:=by rw [IntKind.wrap_i64];omega
   have ab:(0:Int)<=(i:Int)+1:=by omega
   have bi:i<=n:=by omega
   have U:((i:Int)+1).toNat=i+1:=by omega
   have aa:¬(c=i+1):=by omega
   have au:(i:Int)<=(n:Int)+1:=by omega
   have cj:¬(c=i):=by omega
   go_region_law (refine zak rfl _ _ 58 58 rfl 102 2 Tryz.underlying58 (by kernel_rfl) h ((i+1)*2) (n-i) (c-(i+1)) (n+1-i) (c-i) ⟨h,i*2,none⟩ (by simp [Act.eval,Act.put]) (by simp [Act.eval,Act.put]) 102 (F1++F2++R) bt.out F2 bm.out (s.out _ rfl) (by simp;omega) bq.out ?_;intro w1 F Y)
   clear T ab U aa;have az:Hid (Blk w1 h 102 ((F1++F2++R).take (i*2+2)++F2++(F1++F2++R).drop (i*2+2+F2.length)).toArray):=by
    have e:(i+1)*2=i*2+2:=by omega
    rw [e] at F;exact F
   have ac:Hid (∀ j u,X[j]? = some u->w1.cell? ((⟨g,off,none⟩:Addr).add j)=some u):=fun j u I=>by
    have e:Xk w1 g off X:=Xk.grown (w:=w.drew) bb.out Y (by simp;omega);rw [Addr.add_lit];exact e.cell I
   have ap:=hide (z0x Y);have D:=hide K;clear F Y K
   go_wp2_with (refine z7y rfl (.tmp 80) (.tmp 81) 58 58 rfl 102 2 Tryz.underlying58 (by kernel_rfl) h (i*2) (n+1-i) (c-i) 1 c1 ⟨g,off,none⟩ rfl rfl 102 _ az.out X (by rw [show Nat.min 1 (n+1-i)=1 from Nat.min_eq_left (by omega)];exact d.out) ac.out (by have:=d.out;have:=av;simp;omega) D.out ?_;intro w2 M o)
   go_ret
   have a:=HL.out;refine ⟨some ⟨h,0,none⟩,c,by show Ending.returned (.slice (some ⟨h,0,none⟩) (n+1) c)=_;rw [a.1],Own.of_blk M a.2.2.1 (by rw [a.1];exact V) aq (by have:=d.out;have:=av;simp;omega) ?_ (fun y=>y.2.1),zao ap.out o,Or.inl rfl⟩;rw [a.1,a.2.1,<-zdh F1 F2 R X (i*2) 2 ((n-i)*2) ad L d.out (by omega)];congr 1;omega
  ·have f:Blk w h 102 (F1++F2++R).toArray:=hh;obtain ⟨i0,z,al,ah,af,S,ag⟩:=eok.inf;have ak:i+(n+1-i)=n+1:=by omega
   have aj:(n:Int)+1-(i:Int)=((n+1-i:Nat):Int):=by omega
   have ce:h < w.heap.size:=f.lt;have cd:g<w.heap.size:=N.lt;have O:(Builtin.firstCells i0.size i (.slice (some ⟨h,0,none⟩) i c)).run Tryz.prog w.drew=.ok F1.toArray w.drew:=by
    rw [af];refine run_firstCells_some w.drew 2 i ⟨h,0,none⟩ i c F1 ad (fun j v hj=>?_);have ca:=(List.getElem?_eq_some_iff.1 hj).1;rw [Addr.add_lit];refine (f.cell _).trans ?_;simp only [getElem?_toArray,Nat.zero_add];rw [append_assoc,getElem?_append_left (by omega)];exact hj
   have t:=fun ty=>Lib.run_append_grow_zeros w 58 3 ty 102 i0 z .i64 .i64 eok.und Tryz.underlying3 al ah (some ⟨h,0,none⟩) i c F1 O (n+1-i) (by omega) (by omega) (by omega) (by omega) (by rw [S];omega) (by rw [S,ak];exact growslice_fits (by omega) (by omega))
   rw [ak] at t;obtain ⟨G,hG⟩:∃ G,G=grownCap w (n+1) c 102:=⟨_,rfl⟩;rw [<-hG] at t;have br:n+1<=G:=by rw [hG];exact grownCap_ge w _ _ _
   have Q:G<=maxLen:=by rw [hG];exact grownCap_le_maxLen w (n+1) c 102 (by unfold maxLen;omega)
   obtain ⟨Z,hZ,ck⟩:∃ Z:List Value,F1.toArray++Builtin.zeroCells z.cells (n+1-i)++Builtin.zeroCells z.cells (G-(n+1))=(F1++Z).toArray/\Z.length=(G-i)*2 :=
    ⟨(Builtin.zeroCells z.cells (n+1-i)).toList++(Builtin.zeroCells z.cells (G-(n+1))).toList,by simp [Array.append_assoc],by simp [size_zeroCells,ag];omega⟩
   rw [hZ] at t;obtain ⟨W1,q⟩:∃ W1,W1=w.drew.alloc (.cells (F1++Z).toArray 102):=⟨_,rfl⟩;have bs:Hid (Blk W1 w.heap.size 102 (F1++Z).toArray):=by rw [q];exact Blk.new w.drew _ _
   have ba:Hid (Xk W1 g off X):=by rw [q];exact Xk.alloc (w:=w.drew) N _
   have F:Hid (Blk W1 h 102 (F1++F2++R).toArray):=by rw [q];exact Blk.alloc (w:=w.drew) f _
   have bl:Hid (∀ b,W1.grownBy b (some w.heap.size)->∀ row,w.grownBy b row):=fun b hb row=>by
    rw [q] at hb;exact z0x (zap hb row)
   have ai:Hid (∀ ty,(Builtin.append_ #[58,3] ty #[.slice (some ⟨h,0,none⟩) i c,.int .i64 ((n:Int)+1-(i:Int))]).run Tryz.prog w=.ok (.slice (some ⟨w.heap.size,0,none⟩) (n+1) G) W1):=fun ty=>by
    rw [aj,q];exact t ty
   have ac:Hid (∀ j u,X[j]? = some u->W1.cell? ((⟨g,off,none⟩:Addr).add j)=some u):=fun j u I=>by
    rw [Addr.add_lit];exact ba.out.cell I
   have HL:=hide (And.intro k (And.intro p (And.intro ar B)));have d:=hide d;have D:=hide K;have bu:=hide h2;have aw:Hid (F2.length=Nat.min (n-i) (n-i)*2):=by unfold Hid;rw [show Nat.min (n-i) (n-i)=n-i from Nat.min_self _];exact L
   have bj:(i:Int)<(n:Int):=by omega
   have cc:(c:Int)<(n:Int)+1:=by omega
   have bi:i<=n:=by omega
   have ci:¬(c=i):=by omega
   have cm:¬(G=i):=by omega
   have bv:¬(G=i+1):=by omega
   have cl:G<=9223372036854775807:=by unfold maxLen at Q;omega
   clear N f hh m J E B ho h2 k p K t O q hZ hG aj af S ag ah al aq
   go_enter Tryz.func217,Tryz.ntmps217
   go_wp2_with (first|(at_builtin;refine Lib.wpList_append_run _ rfl _ _ _ _ rfl _ _ rfl rfl _ _ (ai.out _) ?_)|(refine z7y rfl (.tmp 43) (.tmp 44) 58 58 rfl 102 2 Tryz.underlying58 (by kernel_rfl) w.heap.size (i*2) (n+1-i) (G-i) 1 c1 ⟨g,off,none⟩ rfl rfl 102 _ bs.out X (by rw [show Nat.min 1 (n+1-i)=1 from Nat.min_eq_left (by omega)];exact d.out) ac.out (by have:=d.out;simp;omega) D.out ?_;intro w2 M o))
   have cf:h≠w.heap.size:=by omega
   have s:Hid (∀ j u,F2[j]? = some u->w2.cell? ((⟨h,i*2,none⟩:Addr).add j)=some u):=fun j u I=>by
    have e:Blk w2 h 102 (F1++F2++R).toArray:=F.out.grown o (by simp;omega);rw [Addr.add_lit,e.cell];have hj:=(List.getElem?_eq_some_iff.1 I).1;simp only [getElem?_toArray];rw [append_assoc,getElem?_append_right (by omega),getElem?_append_left (by omega),show i*2+j-F1.length=j by omega];exact I
   have ao:=hide o;have ay:=hide M;have T:IntKind.i64.wrap ((i:Int)+1)=(i:Int)+1:=by rw [IntKind.wrap_i64];omega
   have ab:(0:Int)<=(i:Int)+1:=by omega
   have U:((i:Int)+1).toNat=i+1:=by omega
   have au:(i:Int)<=(n:Int):=by omega
   have bp:(i:Int)+1<=(n:Int)+1:=by omega
   clear o M
   go_region_law (refine zak rfl _ _ 58 58 rfl 102 2 Tryz.underlying58 (by kernel_rfl) w.heap.size ((i+1)*2) (n-i) (G-(i+1)) (n-i) (c-i) ⟨h,i*2,none⟩ (by simp [Act.eval,Act.put]) (by simp [Act.eval,Act.put]) 102 _ ay.out F2 aw.out s.out (by have:=d.out;simp;omega) bu.out ?_;intro w3 ae an)
   clear T ab U au bp;have ax:Hid (Blk w3 w.heap.size 102 (((F1++Z).take (i*2)++X++(F1++Z).drop (i*2+X.length)).take (i*2+2)++F2++((F1++Z).take (i*2)++X++(F1++Z).drop (i*2+X.length)).drop (i*2+2+F2.length)).toArray):=by
    have e:(i+1)*2=i*2+2:=by omega
    rw [e] at ae;exact ae
   have am:=hide (z0x an);clear ae an
   go_wp2
   go_ret
   have a:=HL.out;have bc:=d.out;refine ⟨some ⟨w.heap.size,0,none⟩,G,by show Ending.returned (.slice (some ⟨w.heap.size,0,none⟩) (n+1) G)=_;rw [a.1],Own.of_blk ax.out C (by rw [a.1];exact br) Q (by simp;omega) ?_ (fun y=>y.2.1),bl.out _ (zao ao.out am.out) _,Or.inr rfl⟩;rw [a.1,a.2.1,<-zlk F1 F2 Z X (i*2) 2 ((n-i)*2) ad L bc (by omega)];congr 1;omega
theorem zfk {n a v r i}(b:S3 n a i v=some r):ConC false E0 217 [.row 0,aI i,.sl 2 (List.map Ae v)] 102 2 (List.map Ae a) 102 2 (List.map Ae r) (.row 0):=zsr rfl (Aw Tryz.func217 rfl rfl) (by omega) zhp b
end
noncomputable section
abbrev zcf {n d a b}:=li (Iz n d a b) (fun c=>⟨[(2,aI d),(7,.row 7013),(14,.sl 1 (a.map aI)),(15,aI (((a.map aI).length:Int))),(16,aI c.1)],[(7013,.row 102 2 (c.2.map Ae))]⟩) fun _ _=>Iz.eq_2 ..
abbrev z2d {n b a c}:=li (O7 n b a c) (fun d=>⟨[(0,.sl 2 (a.map Ae)),(1,.fn 219 [.ref (Y7 b)]),(7,aI (((a.map Ae).length:Int))),(8,aI d)],[]⟩) fun _ _=>O7.eq_2 ..
abbrev zci {n e a f b c}:=jf (Mj n e a f b c) (fun d=>⟨[(0,.sl 2 (f.map Ae)),(2,aI e),(10,.sl 2 (a.map Cc)),(11,aI (((a.map Cc).length:Int))),(12,aI b),(32,.bool (d))],[]⟩) fun _=>Mj.eq_1 ..
abbrev zch {n d a e b}:=li (J0 n d a e b) (fun c=>⟨[(0,.sl 2 (e.map Ae)),(2,aI d),(10,.sl 2 (a.map Cc)),(11,aI (((a.map Cc).length:Int))),(12,aI c)],[]⟩) fun _ _=>J0.eq_2 ..
abbrev z2c {n b a c}:=li (O6 n b a c) (fun d=>⟨[(0,.sl 2 (a.map Ae)),(1,.fn 194 [.ref (C6 b)]),(7,aI (((a.map Ae).length:Int))),(8,aI d)],[]⟩) fun _ _=>O6.eq_2 ..
abbrev z7h {n c}:=li (Lf n c) (fun b=>⟨[(0,.row 200001),(1,.fn 194 [.ptr 100000 0]),(5,aI b.1),(6,aI b.2.1)],[(100000,.box 115 [aI b.2.2.1,aI b.2.2.2.1,aI b.2.2.2.2.1,aI b.2.2.2.2.2.1,aI b.2.2.2.2.2.2.1,.sl 8 (b.2.2.2.2.2.2.2.1.map idA),aI b.2.2.2.2.2.2.2.2.1,aI b.2.2.2.2.2.2.2.2.2.1,aI b.2.2.2.2.2.2.2.2.2.2.1,aI b.2.2.2.2.2.2.2.2.2.2.2.1,aI b.2.2.2.2.2.2.2.2.2.2.2.2.1,.str (b.2.2.2.2.2.2.2.2.2.2.2.2.2.1),.sl 1 (b.2.2.2.2.2.2.2.2.2.2.2.2.2.2.1.map aI),.sl 1 (b.2.2.2.2.2.2.2.2.2.2.2.2.2.2.2.1.map aI),.sl 8 (b.2.2.2.2.2.2.2.2.2.2.2.2.2.2.2.2.1.map idA),.sl 2 (b.2.2.2.2.2.2.2.2.2.2.2.2.2.2.2.2.2.1.map Cc),.sl 1 (b.2.2.2.2.2.2.2.2.2.2.2.2.2.2.2.2.2.2.1.map aI)]),(200001,.row 102 2 (b.2.2.2.2.2.2.2.2.2.2.2.2.2.2.2.2.2.2.2.map Ae))]⟩) fun _ _=>Lf.eq_2 ..
abbrev z4x {n f a g e c b}:=li (Pd n f a g e c b) (fun d=>⟨[(6,.ptr 6 0),(7,.ptr 7 0),(9,.ptr 9 0),(10,.ptr 10 0),(12,.row 52),(13,.ptr 13 0),(81,.sl 8 (a.fChecks.map idA)),(82,aI (((a.fChecks.map idA).length:Int))),(83,aI d)],[(6,.box 60 (Bi g)),(7,.box 115 (C6 a)),(9,.box 71 (Bu f)),(10,.box 60 [aI 0,.nils,.nils]),(13,.box 220 [.row 63]),(52,.row 102 2 (e.map Ae)),(63,.row 26 1 (List.map (fun q=>AV.sl 5 (List.map A7 q)) (c)))]⟩) fun _ _=>Pd.eq_2 ..
abbrev z4y {n a c d e}:=jf (Fq n a c d e) (fun b=>⟨[(6,.ptr 6 0),(7,.ptr 7 0),(8,.ptr 8 0),(9,.ptr 9 0),(10,.ptr 10 0),(44,.bool (b))],[(6,.box 60 (Bi e)),(7,.box 115 (C6 d)),(8,.box 220 (Dj c)),(9,.box 71 (Bu a)),(10,.box 60 [aI 0,.nils,.nils])]⟩) fun _=>Fq.eq_1 ..
attribute [instance] zcf z2d zci zch z2c z7h z4x z4y
def z8y (r:(List Ai)):AV:=.row 0
theorem ze3 {n e d c r}(b:Vp n e d c=some r):ConT E0 189 [.sl 2 (e.map Ae),.sl 1 (d.map aI),aI c] 102 2 (r.map Ae) (z8y r):=by
 unfold Vp at b;refine ConT.walk _ Tryz.func189 rfl (Aw Tryz.func189 rfl rfl) rfl rfl ?_;repeat' first
  |refine AW.jI2 b (fun v b=>?_) fun b=>?_
  |refine AW.regO b fun b=>?_
  |refine AW.stepU [6] ?_;conv=>whnf
  |refine A9.o b (fun b=>?_) fun b=>?_
  |refine Ad.oR b (fun r=>r) Ae (fun _=>AV.row 0) rfl (fun a h=>zbx h) (fun a b=>?_)
  |refine IdxX.A b fun x b=>?_
  |refine B7.I b (fun a b=>?_) rfl rfl fun _=>Or.inr rfl
  |refine NatX.o b (fun m b=>?_)
  |refine LtX.o b (fun b=>?_)
  |refine SetX.o Ae b (fun x=>rfl) (fun x=>(by first|exact SubL.refl _|(repeat' first|exact SubL.nil|refine SubL.cons ?_ ?_|exact Sub.refl _|exact Sub.nil _|refine Sub.agg ?_))) (fun l b=>?_)
  |exact ⟨_,b,LeX.a [(7013,7033)]⟩
  |refine B7.oC b 7013 (fun r=>r) Ae (fun _=>AV.row 0) rfl (fun a h=>zfk h) rfl rfl rfl rfl rfl rfl (fun a b=>?_)
  |exact ⟨_,b,LeX.a [(7033,33)]⟩
  |exact ⟨_,b,LeX.a [(7033,7013)]⟩
  |refine Ax.I b ?_ fun m v b=>?_
  |exact LeX.a [(7013,13)]
  |refine TX.o (rl:=fun r=>r.map Ae) (res:=z8y) b ?_;exact TX.mk _ 7013 (LeX.refl _ _ _) _ rfl rfl (by repeat' first|exact Sub.nil _|exact Sub.refl _|refine Sub.agg ?_|refine Sub.tup ?_|refine Sub.fn ?_|exact SubL.nil|refine SubL.cons ?_ ?_|refine Sub.sl _ ?_|exact SubE.nil|refine SubE.cons ?_ ?_)
instance zt9 {n b a}:CI E0 (Vg n b a) true 219 [Ae b,.ref (Y7 a)] (fun r=>.bool (r)):=by unfold Vg;exact CI.w [] Tryz.func219
instance zfb {n a b}:CI E0 (Tg n a b) true 218 [.sl 2 (a.map Ae),.fn 219 [.ref (Y7 b)]] aI:=by unfold Tg;exact CI.w [] Tryz.func218
instance zxg {n e d c}:CI E0 (Vq n e d c) true 190 [.sl 2 (e.map Ae),.sl 2 (d.map Cc),aI c] (fun r=>.bool (r)):=⟨fun {r} b=>by
 unfold Vq at b;refine cw Tryz.func190 ?_;repeat' first
  |refine AW.jI b (fun v b=>?_) fun b=>?_
  |refine AW.regO b fun b=>?_
  |refine AW.stepU [5] ?_;conv=>whnf
  |refine A9.o b (fun b=>?_) fun b=>?_
  |refine IdxX.A b fun x b=>?_
  |refine B7.I b (fun a b=>?_) rfl rfl fun _=>Or.inr rfl
  |exact ⟨_,b,LeX.a []⟩
  |refine Ax.I b (LeX.a []) fun m v b=>?_
  |refine AndA ?_
  |exact RetX.oB b⟩
set_option maxHeartbeats 400000 in
theorem zmq (l:List (Cel 1))(S:Nat->Prop)(v:Value)(w:World)(h:Sl w S 1 encC v l)(d:l.length<=1000000000) :
  Calls Tryz.prog 191 #[v] w (Jg 26 1 encC l w):=by
 have eok:EOk Tryz.prog 218 26 1 24 (encC (n:=1)):=eokC (sz:=1) (De 218 _ rfl) rfl (De 26 _ rfl) (by omega) rfl;obtain ⟨A,c,rfl,f,_⟩:=h.form;have a:=fun (W:World)=>Lib.run_eql_slice_nil W 218 26 A l.length c 0 0 Tryz.underlying218
 have H:=hide h;cases A with
 |none =>
  have g:l=[]:=h.none_nil;subst g;clear h H d f;simp only [length_nil,Option.isNone_none] at a ⊢
  go_enter Tryz.func191,Tryz.ntmps191
  go_wp2
  go_ret
  exact ⟨none,0,rfl,Own.nil_,by go_grown⟩
 |some ad =>
  clear h
  go_enter Tryz.func191,Tryz.ntmps191
  go_wp2_with (at_builtin;refine Iy rfl _ _ rfl eok rfl Own.made_ rfl (H.out.alloc _) (by simp;omega) (by omega) (by simp) ?_;intro A' i w1 b e _)
  go_ret
  exact ⟨A',i,rfl,b,(Own.made_ (sz:=1) (enc:=encC (n:=1))).grown ((Below.refl _ _).alloc (Nat.le_refl _) _) (Nat.le_refl _) (by simp) e⟩
theorem zit {n a r}(b:Ce n a=some r):ConT E0 191 [.sl 1 (List.map (fun q=>AV.sl 5 (List.map A7 q)) a)] 26 1 (List.map (fun q=>AV.sl 5 (List.map A7 q)) r) (.row 0):=N4 rfl (Aw Tryz.func191 rfl rfl) zmq b
set_option maxHeartbeats 400000 in
theorem zmp (l:List (Cel 5))(S:Nat->Prop)(v:Value)(w:World)(h:Sl w S 5 encC v l)(d:l.length<=1000000000) :
  Calls Tryz.prog 192 #[v] w (Jg 71 5 encC l w):=by
 have eok:EOk Tryz.prog 26 71 5 56 (encC (n:=5)):=eokC (sz:=5) (De 26 _ rfl) rfl (De 71 _ rfl) (by omega) rfl;obtain ⟨A,c,rfl,f,_⟩:=h.form;have a:=fun (W:World)=>Lib.run_eql_slice_nil W 26 71 A l.length c 0 0 Tryz.underlying26
 have H:=hide h;cases A with
 |none =>
  have g:l=[]:=h.none_nil;subst g;clear h H d f;simp only [length_nil,Option.isNone_none] at a ⊢
  go_enter Tryz.func192,Tryz.ntmps192
  go_wp2
  go_ret
  exact ⟨none,0,rfl,Own.nil_,by go_grown⟩
 |some ad =>
  clear h
  go_enter Tryz.func192,Tryz.ntmps192
  go_wp2_with (at_builtin;refine Iy rfl _ _ rfl eok rfl Own.made_ rfl (H.out.alloc _) (by simp;omega) (by omega) (by simp) ?_;intro A' i w1 b e _)
  go_ret
  exact ⟨A',i,rfl,b,(Own.made_ (sz:=5) (enc:=encC (n:=5))).grown ((Below.refl _ _).alloc (Nat.le_refl _) _) (Nat.le_refl _) (by simp) e⟩
theorem zis {n a r}(b:Ce n a=some r):ConT E0 192 [.sl 5 (List.map A7 a)] 71 5 (List.map A7 r) (.row 0):=N4 rfl (Aw Tryz.func192 rfl rfl) zmp b
instance zfe {n b a}:CI E0 (Kv n b a) true 194 [Ae b,.ref (C6 a)] (fun r=>.bool (r)):=by unfold Kv;exact CI.w [] Tryz.func194
instance zfa {n a b}:CI E0 (Tf n a b) true 218 [.sl 2 (a.map Ae),.fn 194 [.ref (C6 b)]] aI:=by unfold Tf;exact CI.w [] Tryz.func218
def z1f (b:Ai)(a:B4):List (Nat×Ent):=[(100000,.box 115 (C6 a))]
def Wr (r:Bool×B4):List (Nat×Ent):=[(100000,.box 115 (C6 r.2))]
def z00 (r:Bool×B4):AV:=.bool (r.1)
def z1d (r:Bool×B4):AS:=⟨[(3,.bool (r.1)),(1,.ptr 100000 0)],Wr r⟩
theorem z13 {n c d r}(b:O0 n c d=some r):ConG E0.P none (CalF E0.P 194 0) [Ae c,.ptr 100000 0] [] (z1f c d) (z00 r) (Wr r):=by
 unfold O0 at b;refine ConG.walk (E:=(E0p 2)) (caps:=[]) _ Tryz.func194 rfl rfl rfl rfl rfl ?_;repeat' first
  |refine AW.step ?_;conv=>whnf
  |refine Ad.I b fun a b=>?_
  |exact GX.A (res:=z00) (meF:=Wr) b z1d
def zah (b:B4)(a:(List Ai)):List (Nat×Ent):=[(100000,.box 115 (C6 b)),(200001,.row 102 2 (a.map Ae))]
def Ua (r:(List Ai)×B4):List (Nat×Ent):=[(260000,.row 102 2 (r.1.map Ae)),(100000,.box 115 (C6 r.2))]
def Xp (r:(List Ai)×B4):AV:=.row 260000
def z1u (r:(List Ai)×B4):AS:=⟨[(4,.row 260000),(1,.fn 194 [.ptr 100000 0])],Ua r⟩
theorem z8f {n d c r}(b:Uj n d c=some r):ConG E0.P none (CalF E0.P 193 0) [.row 200001,.fn 194 [.ptr 100000 0]] [] (zah d c) (Xp r) (Ua r):=by
 unfold Uj at b;refine ConG.walk (E:=(E0p 2)) (caps:=[]) _ Tryz.func193 rfl rfl rfl rfl rfl ?_;repeat' first
  |refine AW.step ?_;conv=>whnf
  |refine A9.o b (fun b=>?_) fun b=>?_
  |refine B7.I b (fun a b=>?_) rfl rfl fun _=>Or.inr rfl
  |refine GX.o (res:=Xp) (meF:=Ua) b ?_;exact GX.mk (z1u _) (LeX.a [(260000,200001)]) rfl _ rfl (by repeat' first|exact Sub.nil _|exact Sub.refl _|refine Sub.agg ?_|refine Sub.tup ?_|refine Sub.fn ?_|exact SubL.nil|refine SubL.cons ?_ ?_|refine Sub.sl _ ?_|exact SubE.nil|refine SubE.cons ?_ ?_) [100000] ⟨Or.inr ⟨1,0,_,_,_,_,_,Nat.le_of_ble_eq_true rfl,rfl,rfl,rfl,rfl,rfl⟩,trivial⟩ rfl
  |refine OpX.sub b rfl rfl rfl rfl rfl rfl rfl rfl rfl rfl (fun m b=>?_)
  |refine OpX.clr Ae b rfl rfl rfl rfl rfl rfl rfl rfl rfl rfl rfl (by first|exact SubL.refl _|(repeat' first|exact SubL.nil|refine SubL.cons ?_ ?_|exact Sub.refl _|exact Sub.nil _|refine Sub.agg ?_)) (fun l b=>?_)
  |refine SlsX.o Ae b (fun l b=>?_)
  |refine GX.o (res:=Xp) (meF:=Ua) b ?_;exact GX.mk (z1u _) (LeX.a [(260000,41)]) rfl _ rfl (by repeat' first|exact Sub.nil _|exact Sub.refl _|refine Sub.agg ?_|refine Sub.tup ?_|refine Sub.fn ?_|exact SubL.nil|refine SubL.cons ?_ ?_|refine Sub.sl _ ?_|exact SubE.nil|refine SubE.cons ?_ ?_) [100000] ⟨Or.inr ⟨1,0,_,_,_,_,_,Nat.le_of_ble_eq_true rfl,rfl,rfl,rfl,rfl,rfl⟩,trivial⟩ rfl
  |refine NatX.o b (fun m b=>?_)
  |refine EltX.o Ae b (fun x b=>?_)
  |refine B7.oM (Bj 28 b) [(100000,100000)] [(100000,100000)] _ _ Wr z00 [] (fun a h=>ConG.up (z13 h)) (Aw Tryz.func194 rfl rfl) rfl rfl rfl ⟨⟨rfl,rfl⟩,trivial⟩ (fun a=>⟨rfl,rfl,rfl,rfl,rfl,rfl,rfl,rfl⟩) (fun a b=>?_)
  |refine SetX.o Ae b (fun x=>rfl) (fun x=>(by first|exact SubL.refl _|(repeat' first|exact SubL.nil|refine SubL.cons ?_ ?_|exact Sub.refl _|exact Sub.nil _|refine Sub.agg ?_))) (fun l b=>?_)
  |exact ⟨_,b,LeX.a []⟩
  |refine Ax.I b (LeX.a []) fun m v b=>?_
  |refine EqX.A ?_
set_option maxHeartbeats 400000 in
theorem zpk (l:List (Cel 4))(S:Nat->Prop)(v:Value)(w:World)(h:Sl w S 4 encC v l)(d:l.length<=1000000000) :
  Calls Tryz.prog 72 #[v] w (Jg 76 4 encC l w):=by
 have eok:EOk Tryz.prog 42 76 4 32 (encC (n:=4)):=eokC (sz:=4) (De 42 _ rfl) rfl (De 76 _ rfl) (by omega) rfl;obtain ⟨A,c,rfl,f,_⟩:=h.form;have a:=fun (W:World)=>Lib.run_eql_slice_nil W 42 76 A l.length c 0 0 Tryz.underlying42
 have H:=hide h;cases A with
 |none =>
  have g:l=[]:=h.none_nil;subst g;clear h H d f;simp only [length_nil,Option.isNone_none] at a ⊢
  go_enter Tryz.func72,Tryz.ntmps72
  go_wp2
  go_ret
  exact ⟨none,0,rfl,Own.nil_,by go_grown⟩
 |some ad =>
  clear h
  go_enter Tryz.func72,Tryz.ntmps72
  go_wp2_with (at_builtin;refine Iy rfl _ _ rfl eok rfl Own.made_ rfl (H.out.alloc _) (by simp;omega) (by omega) (by simp) ?_;intro A' i w1 b e _)
  go_ret
  exact ⟨A',i,rfl,b,(Own.made_ (sz:=4) (enc:=encC (n:=4))).grown ((Below.refl _ _).alloc (Nat.le_refl _) _) (Nat.le_refl _) (by simp) e⟩
theorem zby {n a r}(b:Ce n a=some r):ConT E0 72 [.sl 4 (List.map Aq a)] 76 4 (List.map Aq r) (.row 0):=N4 rfl (Aw Tryz.func72 rfl rfl) zpk b
theorem zp9 {n a r}(b:Ce n a=some r):Con E0 false 72 [.sl 4 (List.map Aq a)] (.sl 4 (List.map Aq r)):=(zby b).close rfl
end
end Go.Proofs.YtidhlpjgifoneaaGreat
