/- Layer 57, plainly. -/
import Derived.Test.YtidhlpjgifoneaaGreatK34
set_option linter.unusedVariables false
set_option linter.unusedSimpArgs false
set_option maxRecDepth 100000
namespace Go.Proofs.YtidhlpjgifoneaaGreat
open Go.RowKit List
structure GS (a:Aut) (l:List Ev):Prop where
 wf:WfA a
 few:FewA a
 ok:AOk a
 chk:z56 N0 a=some 0
 acheck:zbm N0 a=some 0
 str:zlh l=0
 len:l.length<=12
 sm:(wiP 150 a l l [cf0] []).2.2=true
variable {a:Aut}{l:List Ev}
theorem GS.so (h:GS a l):yph l:=zyv h.str
theorem GS.cx (h:GS a l):CxA a l:=⟨h.wf,h.ok,fun x b=>by have:=h.few.2 x b;omega,by have:=h.len;omega⟩
theorem GS.pre (h:GS a l)(i:Nat):zlh (l.take i)=0:=by
 have:=h.str;rw [<-take_append_drop i l] at this;exact yfi this
theorem GS.cxp (h:GS a l)(i:Nat):CxA a (l.take i):=⟨h.wf,h.ok,fun x b=>by have:=h.few.2 x b;omega,by have:=h.len;rw [length_take];omega⟩
theorem GS.edges (h:GS a l):a.fEdges.length<=100:=by have:=h.few.1;omega
theorem GS.begin (h:GS a l)(i:Nat):∃ mp,HM (l.take i) mp/\zey N0 a (l.take i)=some (some ⟨a,mp⟩,0):=by
 have g:=h.len;obtain ⟨q,b,d⟩:=ybr a h.wf (l.take i) (by rw [length_take];omega);have e:q=0:=by
  unfold z4l at b;rw [h.chk,z05,z12,z0f,if_pos rfl,yi1 N0 _ (by grind) (by rw [length_take];omega),z05,h.pre i] at b;exact (Option.some.inj b).symm
 simp_all
theorem yia (h:GS a l)(i:Nat):z3t N0 a (l.take i)=some 0:=by
 have b:=h.len;unfold z3t;rw [h.acheck,z05,z12,z0f,if_pos rfl,yod N0 _ (by grind) (by decide) (by rw [length_take];omega),z05,h.pre i]
structure Gd57 (a:Aut) (l:List Ev) (i:Nat) (c:Cf):Prop where
 cb:CB l a (i+20) c
 ci:CIv a (l.drop i) c
variable {k:Nat}{c:Cf}
theorem CB.mono {m:Nat}(h:CB l a k c)(b:k<=m):CB l a m c:=⟨h.st,h.bd,h.ss,Nat.le_trans h.lb b,Nat.le_trans h.ls (Nat.mul_le_mul_left _ b)⟩
theorem gd0 (h:GS a l):Gd57 a l 0 cf0:=⟨(cb0 h.ok).mono (Nat.zero_le _),by simp,fun b e=>by simp at e,fun s d=>by simp at d⟩
variable {i:Nat}
theorem Gd57.held (h:GS a l)(d:Gd57 a l i c):CB (l.take i) a (i+20) c:=by
 refine ⟨d.cb.st,fun b g=>⟨(d.cb.bd b g).1,?_⟩,d.cb.ss,d.cb.lb,d.cb.ls⟩;have h1:=(d.cb.bd b g).2;rw [<-take_append_drop i l,yor] at h1;cases j:lkH (l.take i) b.fRef with
 |some e=>rfl
 |none =>
  rw [j] at h1;obtain ⟨e,m⟩:=Option.isSome_iff_exists.1 h1;obtain ⟨p,o⟩:=ybx (by simpa using m);have:=d.ci.bef b g e o;rw [p] at this;have:=zwm.lt_ne this;exact absurd rfl this
theorem Gd57.ok (h:GS a l)(hi:i<=12)(b:Gd57 a l i c):cfOk c=true:=b.cb.sz.ok (by omega)
theorem Gd57.cs (h:GS a l)(hi:i<=12)(b:Gd57 a l i c):CS (ygm a) c:=by
 have h1:=b.cb.st;have e:=b.cb.lb;have d:=b.cb.ls;exact ⟨by rw [(ym8 a).1.len];exact h1,by omega,by omega⟩
theorem ypa (hi:i<l.length):l.drop i=l[i]::l.drop (i+1):=drop_eq_getElem_cons hi
theorem ykk (h:Str zlf l)(i:Nat):Str zlf (l.drop i):=Pairwise.sublist (drop_sublist i l) h
theorem Gd57.next (h:GS a l)(hi:i<l.length){cs:List Cf}(m:∀ c∈cs,Gd57 a l i c):∀ d∈cfN a l cs l[i],Gd57 a l (i+1) d:=fun d j=>by
 have so:=h.so;have e:=ypa hi;refine ⟨(ynd h.cx so.st (fun c b=>(m c b).cb) (getElem_mem hi) d j).mono (by omega),?_⟩;have g:=ykk so.st i;rw [e] at g;refine yrb h.ok g (so.pl _ (getElem_mem hi)) (fun c b=>?_) d j;have:=(m c b).ci;rw [e] at this;exact this
theorem Gd57.lk (h:GS a l){cs:List Cf}(g:∀ c∈cs,Gd57 a l i c):∀ c∈cs,∀ b∈c.fBindings,lkH (l.take i) b.fRef=lkH l b.fRef :=
 ysb h.so.st (fun y e=>mem_of_mem_take e) (fun c d=>(g c d).held h)
theorem ys3 (h:GS a l)(hi:i<l.length):∀ y∈l.take i,ze0 y=ze0 l[i]->y=l[i]:=fun y e d=>by
 have b:=h.so.st;obtain ⟨j,g,rfl⟩:=mem_iff_getElem.1 e;rw [length_take] at g;rw [getElem_take] at d;have:=pairwise_iff_getElem.1 b j i (by omega) hi (by omega);exact absurd d (zwm.lt_ne this)
variable {mp:List (Rf×Ev)}
theorem yqp (h:GS a l)(hi:i<l.length)(hm:HM (l.take i) mp){cs:List Cf}(e:∀ c∈cs,Gd57 a l i c)(j:cs.length<=5000):z57 N0 ⟨a,mp⟩ cs l[i]=some (cfN a l cs l[i],maN a l cs l[i]):=by
 have g:=h.len;have b:=yie (r:=⟨a,mp⟩) (h.cxp i) hm (by omega:i+20<=1000) (ys3 h hi) h.edges cs (fun c d=>(e c d).held h) j;rw [yjq (Gd57.lk h e),yir (Gd57.lk h e)] at b;exact b
theorem yg1 (h:GS a l)(hi:i<=l.length)(hm:HM (l.take i) mp)(b:Gd57 a l i c):z61 N0 ⟨a,mp⟩ c=some 0 :=
 yl0 (r:=⟨a,mp⟩) hm (by have:=h.len;omega:i+20<=1000) (b.held h) b.ci
theorem yl6 (h:GS a l)(hi:i<l.length){cs:List Cf}(d:∀ c∈cs,Gd57 a l i c)(g:cs.length<=5000):ziz N0 cs l[i]=some 0:=by
 have e:=h.len;refine yqd (a:=a) (r:=l.drop (i+1)) (h.so.pl _ (getElem_mem hi)) cs (by omega) (fun c b=>by have:=(d c b).cb.lb;omega) (fun c b=>?_);have:=(d c b).ci;simp_all
theorem yog (h:GS a l)(hi:i<l.length){cs:List Cf}(d:∀ c∈cs,Gd57 a l i c)(j:cs.length<=4000)(h1:(cfN a l cs l[i]).length<=4096)(m:(maN a l cs l[i]).length<=4096):zfv N0 a (l.take i) cs l[i]=some (cfN a l cs l[i],maN a l cs l[i],0):=by
 obtain ⟨mp,hm,g⟩:=h.begin i;unfold zfv bndP;rw [g];simp only [z12,z0f,length_map];rw [if_pos trivial,if_neg (by omega)];have e:=fun K=>ye7 (r:=⟨a,mp⟩) l[i] cs (by omega) (fun c b=>yg1 h (by omega) hm (d c b)) K N0 0 (Nat.zero_le _) (by unfold N0;omega)
 refine (e _).trans ?_;rw [yl6 h hi d (by omega),z05,if_pos rfl];have eta:(⟨⟨a.fVars,a.fScopes,a.fStates,a.fEdges⟩,mp⟩:z0l)=⟨a,mp⟩:=rfl;simp only [eta,yqp h hi hm d (by omega),z05,z3g,z1s,zcb,z9u,z0f];grind
variable {α:Type}{n:Nat}
theorem y8k {l:List α}(h:l.length<=1000000000):zct n l=some l:=by unfold zct;exact if_pos h
theorem ydu {l:List Cf}(d:l.length<=1000000)(b:∀ c∈l,c.fBindings.length<=1000000/\c.fStarts.length<=1000000)(K:List Cf->Option (List Cf)):∀ (m k:Nat) (out:List Cf),k<=l.length->l.length<m+k->out.length<=k->zbj N0 l K m ((k:Int),out)=K (out++l.drop k)
 |0,k,out,h1,e,_=>by omega
 |m+1,k,out,h1,e,o=>by
  unfold zbj;simp only [length_map,z0f];by_cases h:k<l.length
  ·have j:=b _ (getElem_mem h);have g:(⟨l[k].fState,l[k].fBindings,l[k].fStarts⟩:Cf)=l[k]:=rfl;rw [if_pos (by omega),z0r h,y8k (by omega),z05,y8k (by omega),z05,drop_eq_getElem_cons h,z27 k (by omega),g,zcu (by simp;omega) (by omega),ydu d b K m (k+1) _ (by omega) (by omega) (by simp;omega)];simp
  grind
theorem yrx {l:List Cf}(d:l.length<=1000000)(b:∀ c∈l,c.fBindings.length<=1000000/\c.fStarts.length<=1000000):ze5 N0 l=some l:=by
 unfold ze5;have:=ydu d b (fun y=>some y) N0 0 [] (Nat.zero_le _) (by unfold N0;omega) (by simp);simpa using this
def covd (R:List Mp)(l:List Cf)(d:Cf):Bool:=l.any (fun c=>cov R c d)
structure yff (a:Aut) (l:List Ev) (S:List (List Cf)):Prop where
 ln:S.length=l.length+1
 few:∀ i (hi:i<S.length),S[i].length<=4096
 gd:∀ i (hi:i<S.length),∀ c∈S[i],Gd57 a l i c
variable {S:List (List Cf)}
theorem yff.cs (h:GS a l)(b:yff a l S)(hi:i<S.length):∀ c∈S[i],CS (ygm a) c:=fun c d=>(b.gd i hi c d).cs h (by have:=b.ln;have:=h.len;omega)
theorem yim {α:Type}[DecidableEq α]:∀ {l m:List α},l.Nodup->(∀ x∈l,x∈m)->l.length<=m.length
 |[],m,_,_=>by simp
 |x::r,m,h1,h=>by
  have d:=h x (by simp);have g:=nodup_cons.1 h1;have j:=yim (m:=m.erase x) g.2 (fun y b=>(mem_erase_of_ne (fun e=>g.1 (by rw [<-e];exact b))).2 (h y (mem_cons_of_mem _ b)));rw [length_erase_of_mem d] at j;have:0<m.length:=length_pos_of_mem d;simp only [length_cons];omega
theorem y66 {β:Type}(l:List α)(k:List α->Option β):bldS l k=k l:=rfl
theorem yne {β:Type}(l:List α)(k:List α->Option β):bld l k=k l:=rfl
theorem ymg {c:α->α->Int}(h:TO c){l:List α}(d:Str c l):l.Nodup:=by
 refine Pairwise.imp (fun {x y} b e=>?_) d;subst e;have:=(h.zero x x).2 rfl;omega
theorem ymd {held:List Ev}:∀ (p r:List Ev) (cs:List Cf) (b:List Ma),(wiP 150 a held (p++r) cs b).2.2=true->(wiP 150 a held p cs b).2.2=true
 |[],r,cs,b,h=>rfl
 |f::p,r,cs,b,h=>by
  rw [cons_append] at h;unfold wiP at h ⊢;split at h
  ·cases h
  ·rename_i q;rw [if_neg q];exact ymd p r _ _ h
noncomputable def xsI (a:Aut)(l:List Ev)(i:Nat):List Cf:=(wiP 150 a l (l.take i) [cf0] []).1
noncomputable def msI (a:Aut)(l:List Ev)(i:Nat):List Ma:=(wiP 150 a l (l.take i) [cf0] []).2.1
theorem ypo (h:GS a l)(i:Nat):wiP 150 a l (l.take i) [cf0] []=(xsI a l i,msI a l i,true):=by
 have h1:=h.sm;rw [<-take_append_drop i l] at h1;have b:=ymd (l.take i) (l.drop i) [cf0] [] (by rw [take_append_drop] at h1 ⊢;exact h1);unfold xsI msI;rw [<-b]
theorem zys (a:Aut)(l:List Ev):xsI a l 0=[cf0]/\msI a l 0=[]:=by unfold xsI msI;rw [take_zero];exact ⟨rfl,rfl⟩
theorem zuh (h:GS a l)(hi:i<l.length):xsI a l (i+1)=cfN a l (xsI a l i) l[i]/\msI a l (i+1)=puts zc0 (msI a l i) (maN a l (xsI a l i) l[i])/\(xsI a l (i+1)).length<=150/\(msI a l (i+1)).length<=150:=by
 have e:l.take (i+1)=l.take i++[l[i]]:=by rw [take_append_getElem]
 have h1:=ypo h (i+1);rw [e] at h1;obtain ⟨x,m,q,g,o,d⟩:=yd8 (l.take i) [cf0] [] (by rw [h1]);rw [ypo h i] at q;injection q with r j
 injection j with j _
 rw [<-r] at g o d;rw [<-j] at g d;rw [h1] at g;injection g with p b
 injection b with b _
 rw [<-p] at o;rw [<-b] at d;exact ⟨p,b,o,d⟩
theorem ypp (h:GS a l)(hi:i<=l.length):(xsI a l i).length<=150:=by
 cases i with
 |zero=>rw [(zys a l).1];simp
 |succ i=>exact (zuh h (by omega)).2.2.1
theorem ypq (h:GS a l):∀ {i:Nat},i<=l.length->∀ c∈xsI a l i,Gd57 a l i c
 |0,hi=>fun c b=>by
  rw [(zys a l).1] at b;rw [mem_singleton.1 b];exact gd0 h
 |i+1,hi=>fun c b=>by
  rw [(zuh h (by omega)).1] at b;exact Gd57.next h (by omega) (ypq h (by omega)) c b
theorem ym7 {held:List Ev}{cs xs:List Cf}(h:∀ c∈cs,c∈xs)(e:Ev):∀ d∈cfN a held cs e,d∈cfN a held xs e:=fun d b=>by
 unfold cfN at b ⊢;rw [zi7 zgf,mem_flatMap] at b ⊢;obtain ⟨c,h1,g⟩:=b;exact ⟨c,h c h1,g⟩
theorem yei {held:List Ev}{cs xs:List Cf}(h:∀ c∈cs,c∈xs)(e:Ev):∀ d∈maN a held cs e,d∈maN a held xs e:=fun d b=>by
 unfold maN at b ⊢;rw [zi7 zge,mem_flatMap] at b ⊢;obtain ⟨c,h1,g⟩:=b;exact ⟨c,h c h1,g⟩
structure Sb (a:Aut) (l:List Ev) (i:Nat) (cs:List Cf):Prop where
 sub:∀ c∈cs,c∈xsI a l i
 str:Str zev cs
theorem Sb.len (h:GS a l)(hi:i<=l.length){cs:List Cf}(b:Sb a l i cs):cs.length<=150 :=
 Nat.le_trans (yim (ymg zgf b.str) b.sub) (ypp h hi)
theorem Sb.gd (h:GS a l)(hi:i<=l.length){cs:List Cf}(d:Sb a l i cs):∀ c∈cs,Gd57 a l i c:=fun c b=>ypq h hi c (d.sub c b)
theorem Sb.next (h:GS a l)(hi:i<l.length){cs:List Cf}(b:Sb a l i cs):Sb a l (i+1) (cfN a l cs l[i]) :=
 ⟨by rw [(zuh h hi).1];exact ym7 b.sub _,zvc zgf _⟩
theorem Sb.ma (h:GS a l)(hi:i<l.length){cs:List Cf}(e:Sb a l i cs):(∀ d∈maN a l cs l[i],d∈msI a l (i+1))/\(maN a l cs l[i]).length<=150:=by
 have h1:∀ d∈maN a l cs l[i],d∈msI a l (i+1):=fun d b=>by
  rw [(zuh h hi).2.1,zt7 zge];exact Or.inr (yei e.sub _ d b)
 exact ⟨h1,Nat.le_trans (yim (ymg zge (zvc zge _)) h1) (zuh h hi).2.2.2⟩
theorem Sb.adv (h:GS a l)(hi:i<l.length){cs:List Cf}(b:Sb a l i cs):zfv N0 a (l.take i) cs l[i]=some (cfN a l cs l[i],maN a l cs l[i],0) :=
 yog h hi (b.gd h (by omega)) (by have:=b.len h (by omega);omega) (by have:=(b.next h hi).len h (by omega);omega) (by have:=(b.ma h hi).2;omega)
theorem Sb.red {cs:List Cf}(b:Sb a l i cs)(R:List Mp):Sb a l i (redP R cs) :=
 ⟨fun c h=>b.sub c ((ydj R cs).subset h),Pairwise.sublist (ydj R cs) b.str⟩
noncomputable def bS (f:List Cf->List Cf)(a:Aut)(l:List Ev):List Ev->List Cf->List (List Cf)->List (List Cf)×Int
 |[],_,acc=>(acc,0)
 |e::r,cs,acc=>if maN a l cs e=[] then bS f a l r (f (cfN a l cs e)) (acc++[f (cfN a l cs e)]) else ([],22)
theorem y67 (f:List Cf->List Cf)(a:Aut)(l:List Ev)(e:Ev)(r:List Ev)(cs:List Cf)(acc:List (List Cf)):bS f a l (e::r) cs acc=if maN a l cs e=[] then bS f a l r (f (cfN a l cs e)) (acc++[f (cfN a l cs e)]) else ([],22):=rfl
theorem Sb.sizes (h:GS a l)(hi:i<=l.length){cs:List Cf}(d:Sb a l i cs):∀ c∈cs,c.fBindings.length<=1000000/\c.fStarts.length<=1000000:=fun c b=>by
 have:=(d.gd h hi c b).cs h (by have:=h.len;omega);exact ⟨this.lb,this.ls⟩
theorem y7q (h:GS a l):∀ (m i:Nat) (cs:List Cf) (out:List (List Cf)),i<=l.length->l.length<m+i->(r:out.length=i+1)->out[i]=cs->Sb a l i cs->zau N0 l a (fun y=>some (y,0)) m ((i:Int),out)=some (bS id a l (l.drop i) cs out)
 |0,i,cs,out,h1,q,_,_,_=>by omega
 |m+1,i,cs,out,h1,q,p,o,g=>by
  have j:=h.len;unfold zau;simp only [length_map,z0f,z12];by_cases hi:i<l.length
  ·have d:∀ (K:List Ev->Option (List (List Cf)×Int)),sls l 0 (i:Int) K=K (l.take i):=fun K=>by
    have:=zri (l:=l) (a:=0) (b:=i) (Nat.zero_le _) (by omega) K;simpa using this
   have e:=g.next h hi;rw [if_pos (by omega),z0r hi,d,zeu (by omega),zia (by omega),o,g.adv h hi,z05,if_pos rfl,drop_eq_getElem_cons hi,y67,z27 i (by omega)];by_cases hm:maN a l cs l[i]=[]
   ·rw [if_neg (by rw [hm];simp),if_pos hm,yrx (by have:=e.len h (by omega);omega) (e.sizes h (by omega)),z05];rw [y66,zcu (by simp;omega) (by omega)];exact y7q h m (i+1) (cfN a l cs l[i]) _ (by omega) (by omega) (by simp;omega) (by rw [getElem_append_right (by omega)];simp [p]) e
   ·have:0<(maN a l cs l[i]).length:=length_pos_iff.2 hm;rw [if_pos (by show (0:Int)<((maN a l cs l[i]).length:Int);omega),if_neg hm]
  ·rw [if_neg (by omega),drop_eq_nil_of_le (by omega)];rfl
theorem sb0 (a:Aut)(l:List Ev):Sb a l 0 [cf0]:=⟨fun c b=>by rw [(zys a l).1];exact b,by simp [Str]⟩
theorem yml (h:GS a l):zfh N0 a l=some (bS id a l l [cf0] [[cf0]]):=by
 have:=y7q h N0 0 [cf0] [[cf0]] (Nat.zero_le _) (by have:=h.len;unfold N0;omega) rfl rfl (sb0 a l);unfold zfh;have b:zh3 N0=some cf0:=rfl;rw [b,z05,y66,yne];simpa using this
theorem ygn:z8a 2000000000=some true:=by kernel_rfl
theorem GS.of (g:WfA a)(h1:z87 N0 a l=some true)(E:z3e N0 a l=some 0):GS a l:=by
 obtain ⟨b,v,G⟩:=ybg a g l;rw [h1] at v;obtain rfl:=Option.some.inj v;obtain ⟨C,B,q,j,z⟩:=G rfl;have u:q=0:=by
  have e:z4l N0 a l=z3e N0 a l:=by unfold z4l z3e;rfl
  rw [e,E] at j;exact (Option.some.inj j).symm
 obtain ⟨p,o,x⟩:=ybr a g l (by omega);rw [j] at o;obtain rfl:=Option.some.inj o;rcases x with ⟨F,_⟩|⟨_,D,y,d,h,_⟩
 ·exact absurd u F
 obtain ⟨r,m,w,H⟩:=y4d N0 (by decide) a g;rw [d] at m;obtain rfl:=Option.some.inj m;exact ⟨g,C,D,d,w,h,B,z u⟩
def NM (a:Aut)(l:List Ev)(i:Nat):Prop:=∀ j,i<=j->(b:j<l.length)->maN a l (xsI a l j) l[j]=[]
theorem yhp {s m:List Ma}:puts zc0 s m=[] ↔ s=[]/\m=[]:=by
 constructor
 ·intro h;have k:=fun z=>zt7 zge z m s
  rw [h] at k;exact ⟨eq_nil_iff_forall_not_mem.2 (fun z b=>by simp_all),eq_nil_iff_forall_not_mem.2 (fun z b=>by have:=(k z).2 (Or.inr b);simp at this)⟩
 ·rintro ⟨rfl,rfl⟩;rfl
theorem ymt (h:GS a l):msI a l l.length=[] ↔ NM a l 0:=by
 have key:∀ i,i<=l.length->(msI a l i=[] ↔ ∀ j,(b:j<l.length)->j<i->maN a l (xsI a l j) l[j]=[]):=by
  intro i
  induction i with
  |zero=>intro _;rw [(zys a l).2];simp
  |succ i e =>
   intro hi;rw [(zuh h (by omega)).2.1,yhp,e (by omega)];grind
 rw [key l.length (Nat.le_refl _)];exact ⟨fun d j _ b=>d j b b,fun d j b _=>d j (Nat.zero_le _) b⟩
noncomputable def tS (f:List Cf->List Cf)(a:Aut)(l:List Ev):List Ev->List Cf->List (List Cf) |[],_=>[] |e::r,cs=>f (cfN a l cs e)::tS f a l r (f (cfN a l cs e))
theorem yav (f:List Cf->List Cf)(a:Aut)(l:List Ev)(e:Ev)(r:List Ev)(cs:List Cf):tS f a l (e::r) cs=f (cfN a l cs e)::tS f a l r (f (cfN a l cs e)):=rfl
theorem yd9 (f:List Cf->List Cf)(a:Aut)(l:List Ev):∀ (r:List Ev) (cs:List Cf),(tS f a l r cs).length=r.length
 |[],_=>rfl
 |e::r,cs=>by rw [yav,length_cons,length_cons,yd9 f a l r]
structure Ch (a:Aut) (l:List Ev) (f:List Cf->List Cf):Prop where
 sub:∀ i cs,Sb a l i cs->Sb a l i (f cs)
 cov:∀ cs,∀ c∈cs,covd (ygm a) (f cs) c=true
theorem yra (a:Aut)(l:List Ev):Ch a l id:=⟨fun i cs h=>h,fun cs c b=>any_eq_true.2 ⟨c,b,ylu _ _⟩⟩
theorem yom {cs xs:List Ma}(h:∀ c∈cs,c∈xs)(e:xs=[]):cs=[]:=eq_nil_iff_forall_not_mem.2 (fun z b=>by simp_all)
variable {f:List Cf->List Cf}
theorem yjt (h:GS a l)(g:Ch a l f):∀ (n i:Nat) (cs:List Cf) (acc:List (List Cf)),i+n=l.length->Sb a l i cs->NM a l i->bS f a l (l.drop i) cs acc=(acc++tS f a l (l.drop i) cs,0)
 |0,i,cs,acc,h1,e,d=>by
  rw [drop_eq_nil_of_le (by omega)];show (acc,(0:Int))=(acc++[],0);rw [append_nil]
 |n+1,i,cs,acc,h1,e,d=>by
  have hi:i<l.length:=by omega
  rw [drop_eq_getElem_cons hi,y67,yav,if_pos (yom (yei e.sub _) (d i (Nat.le_refl _) hi)),yjt h g n (i+1) _ _ (by omega) (g.sub _ _ (e.next h hi)) (fun j m b=>d j (by omega) b)];simp
theorem yjs (h:GS a l):∀ (n i:Nat) (acc:List (List Cf)),i+n=l.length->¬NM a l i->bS id a l (l.drop i) (xsI a l i) acc=([],22)
 |0,i,acc,h1,d=>absurd (fun j m b=>by omega) d
 |n+1,i,acc,h1,d=>by
  have hi:i<l.length:=by omega
  rw [drop_eq_getElem_cons hi,y67];by_cases hm:maN a l (xsI a l i) l[i]=[]
  ·rw [if_pos hm];have:=yjs h n (i+1) (acc++[xsI a l (i+1)]) (by omega) (fun g=>d (fun j m b=>by
    by_cases e:j=i
    ·subst e;exact hm
    ·exact g j (by omega) b))
   rw [(zuh h hi).1] at this;exact this
  ·rw [if_neg hm]
theorem yh3 (h:GS a l)(o:Ch a l f):∀ (n i:Nat) (cs:List Cf),i+n=l.length->Sb a l i cs->S.drop i=cs::tS f a l (l.drop i) cs->∀ j (d:j<S.length),i<=j->Sb a l j S[j]
 |0,i,cs,h1,p,b,j,d,g=>by
  have r:(S.drop i).length=1:=by rw [b,length_cons,yd9,length_drop];omega
  rw [length_drop] at r;obtain rfl:j=i:=by omega
  rw [drop_eq_getElem_cons d] at b;grind
 |n+1,i,cs,h1,p,b,j,d,g=>by
  have hi:i<l.length:=by omega
  have m:i<S.length:=by
   have:(S.drop i).length=l.length-i+1:=by rw [b,length_cons,yd9,length_drop]
   rw [length_drop] at this;omega
  rw [drop_eq_getElem_cons m] at b;obtain ⟨u,q⟩:=List.cons.inj b;by_cases e:j=i
  ·simp_all
  ·rw [drop_eq_getElem_cons hi,yav] at q;exact yh3 h o n (i+1) _ (by omega) (o.sub _ _ (p.next h hi)) q j d (by omega)
noncomputable def refS (f:List Cf->List Cf)(a:Aut)(l:List Ev):List (List Cf):=[cf0]::tS f a l l [cf0]
theorem ymh (h:GS a l)(e:Ch a l f):yff a l (refS f a l)/\(∀ i (hi:i<(refS f a l).length),Sb a l i (refS f a l)[i]):=by
 have d:(refS f a l).length=l.length+1:=by unfold refS;rw [length_cons,yd9]
 have b:∀ i (hi:i<(refS f a l).length),Sb a l i (refS f a l)[i]:=fun i hi=>yh3 h e l.length 0 [cf0] (by omega) (sb0 a l) (by rw [drop_zero,drop_zero];rfl) i hi (Nat.zero_le _)
 exact ⟨⟨d,fun i hi=>by have:=(b i hi).len h (by omega);omega,fun i hi=>(b i hi).gd h (by omega)⟩,b⟩
theorem zzs (h:GS a l):z3t N0 a l=some 0:=by
 have:=yia h l.length;simp_all
theorem yoe (h:GS a l):z3u N0 a l=some (match msI a l l.length with|[]=>(⟨refS id a l⟩,0)|_::_=>(⟨[]⟩,22)):=by
 unfold z3u;rw [zzs h,z05,z12,z0f,if_pos rfl,yml h,z05];cases hm:msI a l l.length with
 |nil =>
  have d:=(ymt h).1 hm;have b:=yjt h (yra a l) l.length 0 [cf0] [[cf0]] (by omega) (sb0 a l) d;rw [drop_zero] at b;rw [b];rfl
 |cons m r =>
  have d:¬NM a l 0:=fun e=>by rw [(ymt h).2 e] at hm;cases hm
  have b:=yjs h l.length 0 [[cf0]] (by omega) d;rw [drop_zero,(zys a l).1] at b;rw [b]
variable {A:List (List Cf)}
theorem y7r {B:List (List Cf)}(o:A.length=B.length)(p:A.length<=1000000)(d:∀ x∈A,x.length<=1000000/\∀ c∈x,cfOk c=true)(b:∀ x∈B,∀ c∈x,cfOk c=true):∀ (m k:Nat),k<=A.length->A.length<m+k->z8i N0 ⟨B⟩ ⟨A⟩ (some true) m (k:Int)=some (decide (A.drop k=B.drop k))
 |0,k,h1,r=>by omega
 |m+1,k,h1,r=>by
  unfold z8i;simp only [length_map,z0f];by_cases h:k<A.length
  ·have g:k<B.length:=by omega
   have j:=d _ (getElem_mem h);rw [if_pos (by omega),z0r h,z0r g,ynw N0 (by decide) _ _ j.2 (b _ (getElem_mem g)) j.1,z05,drop_eq_getElem_cons h,drop_eq_getElem_cons g,z27 k (by omega)];have u:=y7r o p d b m (k+1) (by omega) (by omega);rw [z12,z0f];by_cases e:A[k]=B[k]
   ·have q:(A[k]::A.drop (k+1)=B[k]::B.drop (k+1)) ↔ A.drop (k+1)=B.drop (k+1):=⟨fun h=>(List.cons.inj h).2,fun h=>by rw [e,h]⟩;simp_all
   ·have q:¬(A[k]::A.drop (k+1)=B[k]::B.drop (k+1)):=fun h=>e (List.cons.inj h).1
    rw [if_neg e,decide_eq_false q]
  grind
theorem ymm (e:A.length<=1000000)(b:∀ x∈A,x.length<=1000000/\∀ c∈x,cfOk c=true):z6p N0 ⟨A⟩ ⟨A⟩=some true:=by
 unfold z6p;simp only [length_map,z12,z0f];rw [if_pos trivial];have:=y7r (A:=A) (B:=A) rfl e b (fun x d=>(b x d).2) N0 0 (Nat.zero_le _) (by unfold N0;omega);simpa using this
theorem yh9 (h:GS a l)(b:yff a l S):∀ x∈S,x.length<=1000000/\∀ c∈x,cfOk c=true:=fun x d=>by
 obtain ⟨i,hi,rfl⟩:=mem_iff_getElem.1 d;have h1:=b.few i hi;have j:=b.ln;have g:=h.len;exact ⟨by omega,fun c e=>(b.gd i hi c e).ok h (by omega)⟩
section
variable {α β:Type}
theorem yrf (i:Nat)(x:Option β):arz i x=x:=by unfold arz;rfl
def idr (rs:List α):Ars α:=((range rs.length).map some,rs)
theorem ype {rs:List α}{v:α}(h:rs.length<=1000000)(c:Ars α->Option β):aap (idr rs) v 24 c=c (idr (rs++[v])):=by
 unfold aap idr;rw [if_pos ⟨by simp;omega,by simp;omega⟩];simp [range_succ]
theorem ycz {rs:List α}(h:k<rs.length)(c:Nat->Option β):aob (idr rs) k c=c k:=by
 have:(idr rs).1[k]? = some (some k):=by simp [idr,h]
 unfold aob;rw [this]
variable {rs:List (List α)}
theorem y68 {j:Nat}{l:List α}(d:rs[j]? = some l)(b:k<l.length)(c:Nat->Option β):aix (idr rs) j (k:Int) c=c k:=by
 unfold aix;rw [show (idr rs).2=rs from rfl,d];simp [b]
theorem yjy {j:Nat}{l:List α}{v:α}(d:rs[j]? = some l)(b:l[k]? = some v)(c:α->Option β):ald (idr rs) j k c=c v:=by
 unfold ald;rw [show (idr rs).2=rs from rfl,d];simp only [b]
theorem yju {j:Nat}{l:List α}{v:α}(d:rs[j]? = some l)(b:k<l.length)(c:Ars (List α)->Option β):asr (idr rs) j k v c=c (idr (rs.set j (l.set k v))):=by
 unfold asr;rw [show (idr rs).2=rs from rfl,d];simp [b,idr]
theorem yox (i:Nat)(rs:List α)(x:Option β):frq i (idr rs) x=x:=by
 unfold frq idr;simp
theorem ym9 (rs:List (List α)):aval (idr rs)=rs:=by
 unfold aval idr;apply ext_getElem;all_goals simp_all
end
theorem yhf (n:Nat)(f:Exn->List Bool->Option (List Bool))(e:Exn)(K:List Bool->Option (List Bool)):∀ m v,z6g n f e K m v=z13 n f e K m v
 |0,v=>rfl
 |m+1,v=>by unfold z6g z13;simp only [yhf n f e K m]
theorem yhe (n:Nat)(f:Exn->List Bool->Option (List Bool))(e:Exn)(K:List Bool->Option (List Bool)):∀ m v,z6f n f e K m v=z13 n f e K m v
 |0,v=>rfl
 |m+1,v=>by unfold z6f z13;simp only [yhe n f e K m]
theorem yhd (n:Nat)(f:Exn->List Bool->Option (List Bool))(e:Exn)(K:List Bool->Option (List Bool)):∀ m v,z6e n f e K m v=z13 n f e K m v
 |0,v=>rfl
 |m+1,v=>by unfold z6e z13;simp only [yhd n f e K m]
theorem y4u {l:List α}(h:k<l.length)(P:α->Prop):(∃ x∈l.drop k,P x) ↔ P l[k]\/∃ x∈l.drop (k+1),P x:=by
 rw [drop_eq_getElem_cons h];grind
def MkB (P:Nat->Prop)(t b:List Bool):Prop:=b.length=16/\∀ i,b[i]? = some true ↔ t[i]? = some true\/(i<16/\P i)
variable {P:Nat->Prop}{t:List Bool}
theorem MkB.comp {Q R:Nat->Prop}{d b:List Bool}(h:MkB P t d)(k:MkB Q d b)(e:∀ i,i<16->(R i ↔ P i\/Q i)):MkB R t b:=⟨k.1,fun i=>by
 rw [k.2,h.2];have:=e i;grind⟩
theorem MkB.nil (h:t.length=16)(b:∀ i,i<16->¬P i):MkB P t t:=⟨h,fun i=>by
 have:=b i;grind⟩
theorem MkB.set {j:Nat}(h:t.length=16)(d:j<16)(b:∀ i,i<16->(P i ↔ i=j)):MkB P t (t.set j true):=⟨by simpa using h,fun i=>by
 grind⟩
theorem MkB.congr {Q:Nat->Prop}{b:List Bool}(h:MkB P t b)(d:∀ i,i<16->(P i ↔ Q i)):MkB Q t b:=⟨h.1,fun i=>by
 rw [h.2];have:=d i;grind⟩
theorem y7w (n:Nat)(f:Exn->List Bool->Option (List Bool))(l:List (Nat×Exn))(e:Exn)(j:e.fArgs=l.map (fun p=>z0n p.2))(w:l.length<=4000000)(g:∀ p∈l,∀ t:List Bool,t.length=16->∃ b,f p.2 t=some b/\MkB (fun i=>Occ i p.2) t b) :
  ∀ (m k:Nat) (t:List Bool),k<=l.length->l.length<m+k->t.length=16->∃ b,z13 n f e (fun y=>some y) m ((k:Int),t)=some b/\MkB (fun i=>∃ p∈l.drop k,Occ i p.2) t b
 |0,k,t,h1,x,_=>by omega
 |m+1,k,t,h1,x,o=>by
  unfold z13;simp only [j,length_map,z0f];by_cases h:k<l.length
  ·rw [if_pos (by omega),zpg h];obtain ⟨q,v,d⟩:=g l[k] (getElem_mem h) t o;rw [v,zbr,z27 k (by omega)];obtain ⟨b,u,r⟩:=y7w n f l e j w g m (k+1) q (by omega) (by omega) d.1;exact ⟨b,u,d.comp r (fun i _=>y4u h _)⟩
  ·rw [if_neg (by omega)];exact ⟨t,rfl,MkB.nil o (fun i _ ⟨p,z,_⟩=>by grind)⟩
theorem yq8:∀ (s:Nat) (e:Exn),ETr s e->s<=4000000->∀ n,s+1<n->∀ t:List Bool,t.length=16->∃ d,z1i n e t=some d/\MkB (fun i=>Occ i e) t d:=by
 intro s
 induction s using Nat.strongRecOn with
 |ind s IH =>
  intro e w z n B t b;cases w with
  |mk l e h u =>
   obtain ⟨g,rfl⟩:∃ g,n=g + 1:=⟨n-1,by omega⟩;have C:=zyu (l:=l) (fun p j=>(h p j).pos);have go:∀ t:List Bool,t.length=16->∃ d,z13 g (z1i g) e (fun y=>some y) g (0,t)=some d/\MkB (fun i=>∃ p∈l,Occ i p.2) t d:=fun t b=>y7w g (z1i g) l e u (by omega) (fun p j t b=>by
    have:=zui j;exact IH p.1 (by omega) p.2 (h p j) (by omega) g (by omega) t b) g 0 t (by omega) (by omega) b
   simp only [z1i,yhf,yhe,yhd];rw [yhv,z05];have no:(∀ i,i<16->¬own1 i e)->∃ d,z13 g (z1i g) e (fun y=>some y) g (0,t)=some d/\MkB (fun i=>Occ i e) t d:=fun x=>by
    obtain ⟨d,o,m⟩:=go t b;refine ⟨d,o,m.congr (fun i hi=>?_)⟩;rw [yih u];simp_all
   simp only [z0f,length_map,b];by_cases r:usV e.fOp=true;rotate_left
   ·have q:usV e.fOp=false:=by cases h:usV e.fOp<;>simp_all
    rw [q,zae];exact no (fun i _ h=>r h.1)
   rw [r,z9u];by_cases v:0<=e.fVar;rotate_left
   ·rw [if_neg v];exact no (fun i _ h=>by have:=h.2;omega)
   rw [if_pos v];by_cases h1:e.fVar<16;rotate_left
   ·rw [if_neg (by omega)];exact no (fun i hi h=>by have:=h.2;omega)
   rw [if_pos (by omega),ybv v (by omega),zxe (by omega)];obtain ⟨d,o,m⟩:=go (t.set e.fVar.toNat true) (by simpa using b);refine ⟨d,o,(MkB.set (P:=fun i=>own1 i e) b (by omega) (fun i hi=>⟨fun h=>by have:=h.2;omega,fun h=>⟨r,by omega⟩⟩)).comp m (fun i hi=>?_)⟩;rw [yih u]
def filB (t:List Bool)(k:Nat):List Int:=(t.zipIdx.drop k).filterMap (fun p=>if p.1 then some (p.2:Int) else none)
theorem yj0 (t:List Bool)(k:Nat)(h:k<t.length):filB t k=(if t[k]=true then [(k:Int)] else [])++filB t (k+1):=by
 unfold filB;have b:k<t.zipIdx.length:=by rw [length_zipIdx];exact h
 rw [drop_eq_getElem_cons b,filterMap_cons];grind
theorem ylo (t:List Bool)(v:Int):v∈filB t 0 ↔ ∃ i:Nat,v=(i:Int)/\t[i]? = some true:=by
 unfold filB;rw [drop_zero,mem_filterMap];constructor
 ·grind
 ·rintro ⟨i,rfl,h⟩;exact ⟨(true,i),List.mem_zipIdx_iff_getElem?.2 h,by simp⟩
theorem zwn (n:Nat)(t:List Bool)(b:t.length=16)(K:List Int->Option (List Int)):∀ (m k:Nat) (out:List Int),k<=16->16<m+k->out.length<=k->z1y n t K m ((k:Int),out)=K (out++filB t k)
 |0,k,out,h1,d,_=>by omega
 |m+1,k,out,h1,d,g=>by
  unfold z1y;simp only [z0f,length_map,b];by_cases h:k<16
  ·rw [if_pos (by omega),z1s,zeu (by omega),zia (by omega),yj0 t k (by omega),z27 k (by omega)];cases e:t[k] with
   |true =>
    rw [z9u,zcu (by simp;omega) (by omega),zwn n t b K m (k+1) _ (by omega) (by omega) (by simp;omega)];simp
   |false =>
    rw [zae,zwn n t b K m (k+1) _ (by omega) (by omega) (by omega)];simp
  ·rw [if_neg (by omega)];unfold filB;rw [drop_eq_nil_of_le (by rw [length_zipIdx];omega)];simp
theorem y7s {e:Exn}(m:WfE e):∃ vs:List Int,z9h N0 e=some vs/\vs.length<=16/\∀ v,v∈vs ↔ OccV v e:=by
 obtain ⟨z,j,o⟩:=m;obtain ⟨t,h,g,p⟩:=yq8 z e o j N0 (by unfold N0;omega) (replicate 16 false) (by simp);refine ⟨filB t 0,?_,?_,fun v=>?_⟩
 ·unfold z9h;have hm:=ymx (n:=16) (bytes:=1) (by omega) (by omega) false (fun d=>bndM 9 (z1i N0 e d) fun b=>z1y N0 b (fun k1_0_0y=>some k1_0_0y) N0 (0,[]));refine Eq.trans hm ?_;rw [h,zbr];have:=zwn N0 t g (fun y=>some y) N0 0 [] (by omega) (by unfold N0;omega) (by simp);simpa using this
 ·unfold filB;refine Nat.le_trans (length_filterMap_le _ _) ?_;simp_all
 ·rw [ylo];unfold OccV;grind
theorem zzk (n:Nat)(vs:List Int)(p:vs.length<=16)(d:∀ v∈vs,0<=v/\v<16)(K:List Bool->Option (List Bool)):∀ (m k:Nat) (t:List Bool),k<=vs.length->vs.length<m+k->t.length=16->∃ b,z64 n vs K m ((k:Int),t)=K b/\MkB (fun i=>(i:Int)∈vs.drop k) t b
 |0,k,t,h1,r,_=>by omega
 |m+1,k,t,h1,r,g=>by
  unfold z64;simp only [length_map,z0f];by_cases h:k<vs.length
  ·have q:=d _ (getElem_mem h);rw [if_pos (by omega),z0r h,ybv q.1 (by omega),zxe (by omega),z27 k (by omega)];have e:MkB (fun i=>(i:Int)=vs[k]) t (t.set vs[k].toNat true):=MkB.set g (by omega) (fun i hi=>by omega);obtain ⟨b,o,j⟩:=zzk n vs p d K m (k+1) _ (by omega) (by omega) e.1;exact ⟨b,o,e.comp j (fun i _=>by rw [drop_eq_getElem_cons h,mem_cons])⟩
  ·rw [if_neg (by omega)];exact ⟨t,rfl,MkB.nil g (fun i _ u=>by grind)⟩
theorem y4a {e:Exn}(m:WfE e)(h:t.length=16):∃ b,z6u N0 e t=some b/\MkB (fun i=>OccV (i:Int) e) t b:=by
 obtain ⟨vs,j,g,d⟩:=y7s m;unfold z6u;rw [j,z05];obtain ⟨b,q,p⟩:=zzk N0 vs g (fun v o=>y32 ((d v).1 o)) (fun y=>some y) N0 0 t (Nat.zero_le _) (by unfold N0;omega) h;simp_all
theorem y7v {a:Aut}(b:Stt)(s:Int)(w:b.fGuards.length<=2000000)(j:∀ g∈b.fGuards,WfE g.fCond)(K:List Bool->Option (List Bool)):∀ (m k:Nat) (t:List Bool),k<=b.fGuards.length->b.fGuards.length<m+k->t.length=16->∃ d,z6t N0 s a b K m ((k:Int),t)=K d/\MkB (fun i=>∃ g∈b.fGuards.drop k,OccV (i:Int) g.fCond) t d
 |0,k,t,h1,x,_=>by omega
 |m+1,k,t,h1,x,o=>by
  unfold z6t;simp only [length_map,z0f];by_cases h:k<b.fGuards.length
  ·obtain ⟨q,v,e⟩:=y4a (j _ (getElem_mem h)) o;rw [if_pos (by omega),z0r h,v,zbr,z27 k (by omega)];obtain ⟨d,u,r⟩:=y7v (a:=a) b s w j K m (k+1) q (by omega) (by omega) e.1;exact ⟨d,u,e.comp r (fun i _=>y4u h _)⟩
  ·rw [if_neg (by omega)];exact ⟨t,rfl,MkB.nil o (fun i _ ⟨p,y,_⟩=>by grind)⟩
theorem y7t (es:List Ed)(j:Nat)(g:j<es.length)(ys:List Exn)(d:es[j].fChecks=ys.map z0n)(z:ys.length<=2000000)(q:∀ e∈ys,WfE e)(w:List Bool)(K:List Bool->Option (List Bool)):∀ (m k:Nat) (t:List Bool),k<=ys.length->ys.length<m+k->t.length=16->∃ b,z91 N0 (es,(j:Int),w) K m ((k:Int),t)=K b/\MkB (fun i=>∃ e∈ys.drop k,OccV (i:Int) e) t b
 |0,k,t,h1,B,_=>by omega
 |m+1,k,t,h1,B,r=>by
  unfold z91;rw [z0r g];simp only [d,length_map,z0f];by_cases h:k<ys.length
  ·obtain ⟨u,y,o⟩:=y4a (q _ (getElem_mem h)) r;rw [if_pos (by omega),z0r g,d,yqw h,y,zbr,z27 k (by omega)];obtain ⟨b,x,v⟩:=y7t es j g ys d z q w K m (k+1) u (by omega) (by omega) o.1;exact ⟨b,x,o.comp v (fun i _=>y4u h _)⟩
  ·rw [if_neg (by omega)];exact ⟨t,rfl,MkB.nil r (fun i _ ⟨p,C,_⟩=>by grind)⟩
theorem y7u (es:List Ed)(C:es.length<=1100000)(g:∀ x∈es,WfX x)(d:∀ x∈es,x.fChecks.length<=1100000)(K:List Bool->Option (List Bool)):∀ (m k:Nat) (t:List Bool),k<=es.length->es.length<m+k->t.length=16->∃ e,z37 N0 K m (es,(k:Int),t)=K e/\MkB (fun i=>∃ x∈es.drop k,OwnX x (i:Int)) t e
 |0,k,t,h1,D,_=>by omega
 |m+1,k,t,h1,D,q=>by
  unfold z37;simp only [length_map,z0f];by_cases h:k<es.length
  ·have hm:=getElem_mem h;obtain ⟨r,E⟩:=yh0 (g _ hm);have b:=d _ hm;obtain ⟨v,B,o⟩:=y4a (g _ hm).cond q;rw [if_pos (by omega),z0r h,B,zbr];obtain ⟨u,w,j⟩:=y7t es k h (chE es[k]) r (by rw [r] at b;simp at b;omega) E t (fun k3_2_0y=>(z37 N0 K m) (es,(IntKind.wrap .i64 ((k:Int)+1)),k3_2_0y)) N0 0 v (Nat.zero_le _) (by grind) o.1;obtain ⟨e,z,y⟩:=y7u es C g d K m (k+1) u (by omega) (by omega) j.1;refine ⟨e,w.trans ?_,(o.comp (R:=fun i=>OwnX es[k] (i:Int)) j (fun i _=>?_)).comp y (fun i _=>y4u h _)⟩
   ·rw [z27 k (by omega)];exact z
   ·unfold OwnX;grind
  ·rw [if_neg (by omega)];exact ⟨t,rfl,MkB.nil q (fun i _ ⟨p,F,_⟩=>by grind)⟩
variable {s:Nat}
theorem yq7 (p:WfA a)(j:∀ x∈a.fEdges,x.fChecks.length<=1100000)(h:a.fEdges.length<=1000000)(q:s<a.fStates.length):∃ t:List Bool,zdb N0 a (s:Int)=some t/\t.length=16/\∀ i:Nat,t[i]? = some true ↔ i<16/\OwnV a s (i:Int):=by
 have g:=p.st _ (getElem_mem q);have d:∀ x,x∈ztt a (s:Int) ↔ x∈a.fEdges/\x.fFrom=(s:Int):=fun x=>by unfold ztt;simp
 have C:(ztt a (s:Int)).length<=a.fEdges.length:=by unfold ztt;exact length_filter_le _ _
 unfold zdb;have hm:=ymx (n:=16) (bytes:=1) (by omega) (by omega) false (fun u=>idx a.fStates (s:Int) fun r=>z6t N0 (s:Int) a r (fun k1_0_0y=>bnd (z6q N0 a (s:Int)) fun b=>z37 N0 (fun k2_1_0y=>some k2_1_0y) N0 (b,0,k1_0_0y)) N0 (0,u));obtain ⟨w,B,o⟩:=y7v (a:=a) a.fStates[s] (s:Int) (by omega) g.2 (fun k1_0_0y=>bnd (z6q N0 a (s:Int)) fun b=>z37 N0 (fun k2_1_0y=>some k2_1_0y) N0 (b,0,k1_0_0y)) N0 0 (replicate 16 false) (Nat.zero_le _) (by unfold N0;omega) (by simp);obtain ⟨v,z,m⟩:=y7u (ztt a (s:Int)) (by omega) (fun x e=>p.ed x ((d x).1 e).1) (fun x e=>j x ((d x).1 e).1) (fun y=>some y) N0 0 w (Nat.zero_le _) (by unfold N0;omega) o.1;refine ⟨v,?_,m.1,fun i=>?_⟩
 ·refine hm.trans ?_;rw [z0r q];refine B.trans ?_;rw [ymo _ _ h,z05];exact z
 ·rw [m.2,o.2,getElem?_replicate];unfold OwnV OwnG;grind
def MB (rs:List (List Bool))(s x:Nat):Prop:=∃ l,rs[s]? = some l/\l[x]? = some true
structure ShB (n:Nat) (rs:List (List Bool)):Prop where
 len:rs.length=n
 row:∀ l∈rs,l.length=16
variable {rs:List (List Bool)}
theorem ShB.at (h:ShB n rs)(b:s<n):∃ l,rs[s]? = some l/\l.length=16:=⟨rs[s]'(by rw [h.len];exact b),getElem?_eq_getElem (by rw [h.len];exact b),h.row _ (getElem_mem _)⟩
theorem ShB.set (h:ShB n rs){x:Nat}{l:List Bool}{b:Bool}(e:rs[s]? = some l)(g:x<16):ShB n (rs.set s (l.set x b)):=⟨by rw [length_set];exact h.len,fun q d=>by
 rcases mem_or_eq_of_mem_set d with d|d
 ·exact h.row q d
 ·rw [d,length_set];exact h.row l (mem_of_getElem? e)⟩
theorem yqt (h:ShB n rs){x:Nat}{l:List Bool}{b:Bool}(e:rs[s]? = some l)(o:x<16)(p:MB rs s x->b=true)(t y:Nat):MB (rs.set s (l.set x b)) t y ↔ MB rs t y\/(t=s/\y=x/\b=true):=by
 have j:s<rs.length:=(List.getElem?_eq_some_iff.1 e).1;have m:=h.row l (mem_of_getElem? e);unfold MB at *;by_cases d:t=s
 ·subst d;rw [getElem?_set_self j,e];by_cases g:y=x
  ·simp_all
  grind
 grind
theorem y2m (C B:Int×Ars (List Bool))(x:Ed){f t:Nat}(H:x.fFrom=(f:Int))(j:f<n)(G:x.fTo=(t:Int))(p:t<n)(K:Ars (List Bool)->Option (List (List Bool))) :
  ∀ (m k:Nat) (rs:List (List Bool)),k<=16->16<m+k->ShB n rs->∃ d,z1f N0 a n C B x K m ((k:Int),idr rs)=K (idr d)/\ShB n d/\∀ s y,MB d s y ↔ MB rs s y\/(s=f/\k<=y/\y<16/\MB rs t y)
 |0,k,rs,h1,N,_=>by omega
 |m+1,k,rs,h1,N,r=>by
  unfold z1f;rw [z3g,z1s,z0f,if_pos (by omega)];unfold z2s;rw [z0f];by_cases h:k<16
  ·obtain ⟨lf,g,F⟩:=r.at j;obtain ⟨lt,q,E⟩:=r.at p;have w:lf[k]? = some lf[k]:=getElem?_eq_getElem (by omega);have v:lt[k]? = some lt[k]:=getElem?_eq_getElem (by omega);have step:∀ b:Bool,b=(lf[k] || lt[k])->∃ d,z1f N0 a n C B x K m (((k+1:Nat):Int),idr (rs.set f (lf.set k b)))=K (idr d)/\ShB n d/\∀ s y,MB d s y ↔ MB rs s y\/(s=f/\k<=y/\y<16/\MB rs t y):=fun b z=>by
    have u:MB rs f k ↔ lf[k]=true:=⟨fun ⟨l,Q,O⟩=>by grind,fun e=>⟨lf,g,by rw [w,e]⟩⟩;have D:MB rs t k ↔ lt[k]=true:=⟨fun ⟨l,Q,O⟩=>by grind,fun e=>⟨lt,q,by rw [v,e]⟩⟩;have o:=yqt (b:=b) r g h (fun e=>by rw [z,u.1 e];rfl);have M:b=true ↔ MB rs f k\/MB rs t k:=by rw [z,u,D,Bool.or_eq_true]
    obtain ⟨d,L,J,I⟩:=y2m C B x H j G p K m (k+1) _ (by omega) (by omega) (r.set (b:=b) g h);refine ⟨d,L,J,fun s y=>?_⟩;rw [I,o,o];grind
   rw [if_pos (by omega),z1s,zzv (by omega) (by omega),H,Int.toNat_natCast,ycz (by rw [r.len];exact j),zzv (by omega) (by omega),ycz (by rw [r.len];exact j),y68 g (by omega),yjy g w,z27 k (by omega)];cases z:lf[k] with
   |true =>
    rw [z9u,y68 g (by omega),yju g (by omega)];exact step true (by rw [z];rfl)
   |false =>
    rw [zae,zzv (by omega) (by omega),G,Int.toNat_natCast,ycz (by rw [r.len];exact p),y68 q (by omega),yjy q v,y68 g (by omega),yju g (by omega)];exact step _ (by rw [z];rfl)
  grind
theorem ybj (d b:Int×Ars (List Bool))(x:Ed)(g:x.fTo<0)(K:Ars (List Bool)->Option (List (List Bool)))(m:Nat)(hm:0<m)(v:Int×Ars (List Bool)):z1f N0 a n d b x K m v=K v.2:=by
 obtain ⟨m,rfl⟩:∃ e,m=e + 1:=⟨m-1,by omega⟩;unfold z1f;rw [z3g,z1s,z0f,if_neg (by omega)];unfold z2s;rw [zae]
structure Ps (a:Aut) (es:List Ed) (rs rs':List (List Bool)):Prop where
 sh:ShB a.fStates.length rs'
 mono:∀ s y,MB rs s y->MB rs' s y
 snd:(∀ s y,MB rs s y->Rd a s (y:Int))->∀ s y,MB rs' s y->Rd a s (y:Int)
 mark:∀ x∈es,∀ f t y:Nat,x.fFrom=(f:Int)->x.fTo=(t:Int)->MB rs t y->MB rs' f y
theorem y2n (M:AOk a)(G:a.fEdges.length<=1100000)(o:Int×Ars (List Bool))(K:Ars (List Bool)->Option (List (List Bool))) :
  ∀ (m k:Nat) (rs:List (List Bool)),k<=a.fEdges.length->a.fEdges.length<m+k->ShB a.fStates.length rs->∃ e,z28 N0 a a.fStates.length o K m ((k:Int),idr rs)=K (idr e)/\Ps a (a.fEdges.drop k) rs e
 |0,k,rs,h1,I,_=>by omega
 |m+1,k,rs,h1,I,C=>by
  unfold z28;simp only [length_map,z0f];by_cases h:k<a.fEdges.length
  ·have j:=getElem_mem h;have q:=M.ed _ j;obtain ⟨f,L⟩:∃ f:Nat,a.fEdges[k].fFrom=(f:Int):=⟨a.fEdges[k].fFrom.toNat,by have:=q.frm;omega⟩;have H:f<a.fStates.length:=by have:=q.frm;omega
   rw [if_pos (by omega),z0r h];have one:∃ b,z1f N0 a a.fStates.length o ((k:Int),idr rs) a.fEdges[k] (fun k4_3_0y=>(z28 N0 a a.fStates.length o K m) ((IntKind.wrap .i64 ((k:Int)+1)),k4_3_0y)) N0 (0,idr rs)=z28 N0 a a.fStates.length o K m (((k+1:Nat):Int),idr b)/\Ps a [a.fEdges[k]] rs b:=by
    by_cases Q:0<=a.fEdges[k].fTo
    ·obtain ⟨t,J⟩:∃ t:Nat,a.fEdges[k].fTo=(t:Int):=⟨a.fEdges[k].fTo.toNat,by omega⟩;have F:t<a.fStates.length:=by have:=q.tgt;omega
     obtain ⟨b,E,p,D⟩:=y2m (a:=a) o ((k:Int),idr rs) a.fEdges[k] L H J F (fun k4_3_0y=>(z28 N0 a a.fStates.length o K m) ((IntKind.wrap .i64 ((k:Int)+1)),k4_3_0y)) N0 0 rs (by omega) (by unfold N0;omega) C;refine ⟨b,E.trans (by rw [z27 k (by omega)]),p,fun s y h=>(D s y).2 (Or.inl h),fun g s y h=>?_,fun x d w r y B z h=>?_⟩
     ·rcases (D s y).1 h with h|⟨rfl,_,_,h⟩
      ·exact g s y h
      ·exact .step _ j _ t _ L J (g t y h)
     ·rw [mem_singleton.1 d] at B z;have h1:w=f:=by omega
      have I:r=t:=by omega
      subst h1;subst I;refine (D _ y).2 (Or.inr ⟨rfl,Nat.zero_le _,?_,h⟩);obtain ⟨l,O,R⟩:=h;have:=C.row l (mem_of_getElem? O);grind
    ·refine ⟨rs,?_,C,fun s y h=>h,fun g=>g,fun x d w r y B z h=>?_⟩
     ·rw [ybj _ _ _ (by omega) _ _ (by unfold N0;omega),z27 k (by omega)]
     grind
   obtain ⟨b,E,p⟩:=one;obtain ⟨e,N,u⟩:=y2n M G o K m (k+1) b (by omega) (by omega) p.sh;refine ⟨e,E.trans N,u.sh,fun s y h=>u.mono s y (p.mono s y h),fun g=>u.snd (p.snd g),fun x d w r y B z v=>?_⟩;rw [drop_eq_getElem_cons h] at d;rcases mem_cons.1 d with d|d
   ·exact u.mono _ _ (p.mark x (by rw [d];simp) w r y B z v)
   ·exact u.mark x d w r y B z (p.mono _ _ v)
  ·rw [if_neg (by omega)];exact ⟨rs,rfl,C,fun s y h=>h,fun g=>g,fun x d=>by grind⟩
open Classical in
noncomputable def cntB (n:Nat)(rs:List (List Bool))(y:Nat):Nat:=(range n).countP (fun s=>decide (MB rs s y))
structure RdI (a:Aut) (k:Nat) (rs:List (List Bool)):Prop where
 sh:ShB a.fStates.length rs
 own:∀ s y:Nat,y<16->OwnV a s (y:Int)->MB rs s y
 snd:∀ s y,MB rs s y->Rd a s (y:Int)
 all:∀ y:Nat,y<16->(∀ s,Rd a s (y:Int)->MB rs s y)\/k<=cntB a.fStates.length rs y
open Classical in
theorem RdI.round {d:List (List Bool)}(E:AOk a)(h:RdI a k rs)(p:Ps a a.fEdges rs d):RdI a (k+1) d:=⟨p.sh,fun s y g m=>p.mono _ _ (h.own s y g m),p.snd h.snd,fun y g=>by
 rcases h.all y g with C|F
 ·exact Or.inl (fun s b=>p.mono _ _ (C s b))
 ·by_cases e:∀ x∈a.fEdges,∀ f t:Nat,x.fFrom=(f:Int)->x.fTo=(t:Int)->MB rs t y->MB rs f y
  ·refine Or.inl (fun s b=>p.mono _ _ ?_);generalize v:(y:Int)=z at b
   induction b with
   |own t x m=>subst v;exact h.own t y g m
   |step ed D t s x w b _ ih=>exact e ed D t s w b (ih v)
  ·refine Or.inr ?_;obtain ⟨x,j,f,t,u,r,h1,q⟩:∃ x∈a.fEdges,∃ f t:Nat,x.fFrom=(f:Int)/\x.fTo=(t:Int)/\MB rs t y/\¬MB rs f y:=Classical.byContradiction (fun B=>e (fun x j f t u r h1=>Classical.byContradiction (fun q=>B ⟨x,j,f,t,u,r,h1,q⟩)));have o:f<a.fStates.length:=by have:=(E.ed x j).frm;omega
   have:cntB a.fStates.length rs y<cntB a.fStates.length d y:=by
    unfold cntB;refine y92 (fun s _ b=>?_) ⟨f,mem_range.2 o,?_,?_⟩
    ·exact decide_eq_true (p.mono _ _ (of_decide_eq_true b))
    ·exact decide_eq_true (p.mark x j f t y u r h1)
    ·exact decide_eq_false q
   omega⟩
theorem RdI.done (e:AOk a)(h:RdI a a.fStates.length rs):∀ s y:Nat,MB rs s y ↔ y<16/\Rd a s (y:Int):=fun s y=>by
 have b:∀ {s:Nat} {z:Int},Rd a s z->s<a.fStates.length:=fun {s z} h=>by
  induction h with
  |own t x h =>
   rcases h with ⟨r,h,_⟩|⟨ed,h1,v,_⟩
   ·grind
   ·have:=(e.ed ed h1).frm;omega
  |step ed m t s x u _ _ _=>have:=(e.ed ed m).frm;omega
 constructor
 ·intro hm;refine ⟨?_,h.snd s y hm⟩;obtain ⟨l,q,w⟩:=hm;have:=h.sh.row l (mem_of_getElem? q);grind
 ·rintro ⟨g,d⟩;rcases h.all y g with j|o
  ·exact j s d
  ·have heq:cntB a.fStates.length rs y=(range a.fStates.length).length:=by
    have:=countP_le_length (p:=fun s=>@decide (MB rs s y) (Classical.propDecidable _)) (l:=range a.fStates.length);unfold cntB at o ⊢;rw [length_range] at this ⊢;omega
   have:=List.countP_eq_length.1 heq s (mem_range.2 (b d));simp_all
theorem y2o (e:AOk a)(d:a.fEdges.length<=1100000)(K:Ars (List Bool)->Option (List (List Bool))) :
  ∀ (m k:Nat) (rs:List (List Bool)),k<=a.fStates.length->a.fStates.length<m+k->RdI a k rs->∃ b,z3b N0 a a.fStates.length K m ((k:Int),idr rs)=K (idr b)/\RdI a a.fStates.length b
 |0,k,rs,h1,v,_=>by omega
 |m+1,k,rs,h1,v,o=>by
  have u:=e.st;unfold z3b;simp only [length_map,z0f];by_cases h:k<a.fStates.length
  ·rw [if_pos (by omega)];obtain ⟨g,r,j⟩:=y2n e d ((k:Int),idr rs) (fun k3_2_0y=>(z3b N0 a a.fStates.length K m) ((IntKind.wrap .i64 ((k:Int)+1)),k3_2_0y)) N0 0 rs (Nat.zero_le _) (by unfold N0;omega) o.sh;rw [drop_zero] at j;obtain ⟨b,q,p⟩:=y2o e d K m (k+1) g (by omega) (by omega) (o.round e j);exact ⟨b,r.trans (by rw [z27 k (by omega)];exact q),p⟩
  grind
theorem y2p (o:WfA a)(q:AOk a)(g:∀ x∈a.fEdges,x.fChecks.length<=1100000)(d:a.fEdges.length<=1000000)(K:Nat->Ars (List Bool)->Option (List (List Bool))) :
  ∀ (m k:Nat) (rs:List (List Bool)),k<=a.fStates.length->a.fStates.length<m+k->ShB k rs->(∀ s y,MB rs s y ↔ s<k/\y<16/\OwnV a s (y:Int))->∃ b,z7j N0 a K m (k,(k:Int),idr rs)=K a.fStates.length (idr b)/\ShB a.fStates.length b/\∀ s y,MB b s y ↔ s<a.fStates.length/\y<16/\OwnV a s (y:Int)
 |0,k,rs,h1,C,_,_=>by omega
 |m+1,k,rs,h1,C,j,B=>by
  have w:=q.st;unfold z7j;simp only [length_map,z0f];by_cases h:k<a.fStates.length
  ·obtain ⟨t,u,D,r⟩:=yq7 o g d h;rw [if_pos (by omega),u,zo8,ype (by rw [j.len];omega),z27 k (by omega)];refine y2p o q g d K m (k+1) (rs++[t]) (by omega) (by omega) ⟨by rw [length_append,j.len];rfl,fun l p=>(mem_append.1 p).elim (j.row l) (fun p=>by simp_all)⟩ (fun s y=>?_);have e:MB (rs++[t]) s y ↔ MB rs s y\/(s=k/\t[y]? = some true):=by
    unfold MB;rw [List.getElem?_append,j.len];by_cases v:s<k
    ·rw [if_pos v];grind
    ·have:rs[s]? = none:=getElem?_eq_none (by rw [j.len];omega);by_cases z:s=k
     ·subst z;simp [this]
     grind
   rw [e,B,r];grind
  grind
theorem yo1 (v:WfA a)(b:AOk a)(j:∀ x∈a.fEdges,x.fChecks.length<=1100000)(g:a.fEdges.length<=1000000):∃ rs:List (List Bool),z86 N0 a=some rs/\ShB a.fStates.length rs/\∀ s y:Nat,MB rs s y ↔ y<16/\Rd a s (y:Int):=by
 unfold z86;rw [yrf,z1s];obtain ⟨rs,r,q,o⟩:=y2p v b j g (fun k1_0_0y0 k1_0_0y1=>z3b N0 a k1_0_0y0 (fun k2_1_0y=>frq 7003 k2_1_0y <| reg <| some (aval k2_1_0y)) N0 (0,k1_0_0y1)) N0 0 [] (Nat.zero_le _) (by have:=b.st;unfold N0;omega) ⟨rfl,by simp⟩ (fun s y=>by simp [MB]);have w:∀ {s:Nat} {z:Int},OwnV a s z->s<a.fStates.length:=fun {s z} d=>by
  rcases d with ⟨B,h,_⟩|⟨ed,h1,C,_⟩
  ·grind
  ·have:=(b.ed ed h1).frm;omega
 obtain ⟨e,p,m⟩:=y2o b (by omega) (fun k2_1_0y=>frq 7003 k2_1_0y <| reg <| some (aval k2_1_0y)) N0 0 rs (Nat.zero_le _) (by have:=b.st;unfold N0;omega) ⟨q,fun s y u d=>(o s y).2 ⟨w d,u,d⟩,fun s y h=>.own s _ ((o s y).1 h).2.2,fun y _=>Or.inr (Nat.zero_le _)⟩;refine ⟨e,r.trans (p.trans ?_),m.sh,m.done b⟩;rw [yox,z1s,ym9]
end Go.Proofs.YtidhlpjgifoneaaGreat
