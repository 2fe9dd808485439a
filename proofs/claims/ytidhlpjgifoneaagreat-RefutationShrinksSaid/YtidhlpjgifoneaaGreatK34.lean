/- Layer 57, plainly. -/
import Derived.Test.YtidhlpjgifoneaaGreatK32
import Derived.Test.YtidhlpjgifoneaaGreatK33
set_option linter.unusedVariables false
set_option linter.unusedSimpArgs false
set_option maxRecDepth 100000
namespace Go.Proofs.YtidhlpjgifoneaaGreat
open Go.RowKit List
structure GS (a:Aut) (l:List Ev):Prop where
 wf:WfA a
 few:FewA a
 ok:AOk a
 chk:z5c N0 a=some 0
 acheck:zbg N0 a=some 0
 str:zkq l=0
 len:l.length<=12
 sm:(wiP 150 a l l [cf0] []).2.2=true
variable {a:Aut}{l:List Ev}
theorem GS.so (h:GS a l):ypi l:=zxn h.str
theorem GS.cx (h:GS a l):CxA a l:=⟨h.wf,h.ok,fun x hx=>by have:=h.few.2 x hx;omega,by have:=h.len;omega⟩
theorem GS.pre (h:GS a l)(i:Nat):zkq (l.take i)=0:=by
 have:=h.str
 rw [<-take_append_drop i l] at this
 exact yen this
theorem GS.cxp (h:GS a l)(i:Nat):CxA a (l.take i):=⟨h.wf,h.ok,fun x hx=>by have:=h.few.2 x hx;omega,by have:=h.len;rw [length_take];omega⟩
theorem GS.edges (h:GS a l):a.fEdges.length<=100:=by have:=h.few.1;omega
theorem GS.begin (h:GS a l)(i:Nat):∃ mp,HM (l.take i) mp/\zeo N0 a (l.take i)=some (some ⟨a,mp⟩,0):=by
 have hl:=h.len
 obtain ⟨q,q1,q2⟩:=yaj a h.wf (l.take i) (by rw [length_take];omega)
 have hq:q=0:=by
  unfold z2q at q1
  rw [h.chk,z04,z0y,z0c,if_pos rfl,ymj N0 _ (by grind) (by rw [length_take];omega),z04,h.pre i] at q1
  exact (Option.some.inj q1).symm
 simp_all
theorem y7e (h:GS a l)(i:Nat):z8x N0 a (l.take i)=some 0:=by
 have hl:=h.len
 unfold z8x
 rw [h.acheck,z04,z0y,z0c,if_pos rfl,yqv N0 _ (by grind) (by decide) (by rw [length_take];omega),z04,h.pre i]
structure Gd57 (a:Aut) (l:List Ev) (i:Nat) (c:Cf):Prop where
 cb:CB l a (i+20) c
 ci:CIv a (l.drop i) c
variable {c:Cf}
theorem CB.mono {k m:Nat}(h:CB l a k c)(hk:k<=m):CB l a m c:=⟨h.st,h.bd,h.ss,Nat.le_trans h.lb hk,Nat.le_trans h.ls (Nat.mul_le_mul_left _ hk)⟩
theorem gd0 (h:GS a l):Gd57 a l 0 cf0:=⟨(cb0 h.ok).mono (Nat.zero_le _),by simp,fun b hb=>by simp at hb,fun s hs=>by simp at hs⟩
variable {i:Nat}
theorem Gd57.held (h:GS a l)(hc:Gd57 a l i c):CB (l.take i) a (i+20) c:=by
 refine ⟨hc.cb.st,fun b hb=>⟨(hc.cb.bd b hb).1,?_⟩,hc.cb.ss,hc.cb.lb,hc.cb.ls⟩
 have h1:=(hc.cb.bd b hb).2
 rw [<-take_append_drop i l,yon] at h1
 cases hq:lkH (l.take i) b.fRef with
 |some e=>rfl
 |none =>
  rw [hq] at h1
  obtain ⟨e,he⟩:=Option.isSome_iff_exists.1 h1
  obtain ⟨e1,e2⟩:=yaq (by simpa using he)
  have:=hc.ci.bef b hb e e2
  rw [e1] at this
  have:=zv3.lt_ne this
  exact absurd rfl this
theorem Gd57.ok (h:GS a l)(hi:i<=12)(hc:Gd57 a l i c):cfOk c=true:=hc.cb.sz.ok (by omega)
theorem Gd57.cs (h:GS a l)(hi:i<=12)(hc:Gd57 a l i c):CS (zg7 a) c:=by
 have h1:=hc.cb.st
 have h2:=hc.cb.lb
 have h3:=hc.cb.ls
 exact ⟨by rw [(y51 a).1.len];exact h1,by omega,by omega⟩
theorem yp9 (hi:i<l.length):l.drop i=l[i]::l.drop (i+1):=drop_eq_getElem_cons hi
theorem ykb (h:Str zkn l)(i:Nat):Str zkn (l.drop i):=Pairwise.sublist (drop_sublist i l) h
theorem Gd57.next (h:GS a l)(hi:i<l.length){cs:List Cf}(hc:∀ c∈cs,Gd57 a l i c):∀ d∈cfN a l cs l[i],Gd57 a l (i+1) d:=fun d hd=>by
 have so:=h.so
 have e:=yp9 hi
 refine ⟨(yn4 h.cx so.st (fun c hc'=>(hc c hc').cb) (getElem_mem hi) d hd).mono (by omega),?_⟩
 have hst:=ykb so.st i
 rw [e] at hst
 refine yrk h.ok hst (so.pl _ (getElem_mem hi)) (fun c hc'=>?_) d hd
 have:=(hc c hc').ci
 rw [e] at this
 exact this
theorem Gd57.lk (h:GS a l){cs:List Cf}(hc:∀ c∈cs,Gd57 a l i c):∀ c∈cs,∀ b∈c.fBindings,lkH (l.take i) b.fRef=lkH l b.fRef :=
 ysp h.so.st (fun y hy=>mem_of_mem_take hy) (fun c hc'=>(hc c hc').held h)
theorem ysh (h:GS a l)(hi:i<l.length):∀ y∈l.take i,zdt y=zdt l[i]->y=l[i]:=fun y hy hr=>by
 have hst:=h.so.st
 obtain ⟨j,hj,rfl⟩:=mem_iff_getElem.1 hy
 rw [length_take] at hj
 rw [getElem_take] at hr
 have:=pairwise_iff_getElem.1 hst j i (by omega) hi (by omega)
 exact absurd hr (zv3.lt_ne this)
variable {mp:List (Rf×Ev)}
theorem ymn (h:GS a l)(hi:i<l.length)(hm:HM (l.take i) mp){cs:List Cf}(hc:∀ c∈cs,Gd57 a l i c)(hl:cs.length<=5000):z5d N0 ⟨a,mp⟩ cs l[i]=some (cfN a l cs l[i],maN a l cs l[i]):=by
 have hln:=h.len
 have had:=yhs (r:=⟨a,mp⟩) (h.cxp i) hm (by omega:i+20<=1000) (ysh h hi) h.edges cs (fun c hc'=>(hc c hc').held h) hl
 rw [yje (Gd57.lk h hc),yid (Gd57.lk h hc)] at had
 exact had
theorem zv5 (h:GS a l)(hi:i<=l.length)(hm:HM (l.take i) mp)(hc:Gd57 a l i c):z69 N0 ⟨a,mp⟩ c=some 0 :=
 yku (r:=⟨a,mp⟩) hm (by have:=h.len;omega:i+20<=1000) (hc.held h) hc.ci
theorem yd0 (h:GS a l)(hi:i<l.length){cs:List Cf}(hc:∀ c∈cs,Gd57 a l i c)(hl:cs.length<=5000):zi6 N0 cs l[i]=some 0:=by
 have hln:=h.len
 refine yqj (a:=a) (r:=l.drop (i+1)) (h.so.pl _ (getElem_mem hi)) cs (by omega) (fun c hc'=>by have:=(hc c hc').cb.lb;omega) (fun c hc'=>?_)
 have:=(hc c hc').ci
 simp_all
theorem yob (h:GS a l)(hi:i<l.length){cs:List Cf}(hc:∀ c∈cs,Gd57 a l i c)(hl:cs.length<=4000)(h1:(cfN a l cs l[i]).length<=4096)(h2:(maN a l cs l[i]).length<=4096):zfm N0 a (l.take i) cs l[i]=some (cfN a l cs l[i],maN a l cs l[i],0):=by
 obtain ⟨mp,hm,hb⟩:=h.begin i
 unfold zfm bndP
 rw [hb]
 simp only [z0y,z0c,length_map]
 rw [if_pos trivial,if_neg (by omega)]
 have l2:=fun K=>ydf (r:=⟨a,mp⟩) l[i] cs (by omega) (fun c hc'=>zv5 h (by omega) hm (hc c hc')) K N0 0 (Nat.zero_le _) (by unfold N0;omega)
 refine (l2 _).trans ?_
 rw [yd0 h hi hc (by omega),z04,if_pos rfl]
 have eta:(⟨⟨a.fVars,a.fScopes,a.fStates,a.fEdges⟩,mp⟩:z0m)=⟨a,mp⟩:=rfl
 simp only [eta,ymn h hi hm hc (by omega),z04,z2k,z1d,zc1,z6c,z0c]
 grind
theorem ykq (h:GS a l)(hi:i<l.length)(hc:Gd57 a l i c):znb N0 a (l.take i) c l[i]=some (cfN a l [c] l[i],maN a l [c] l[i],0):=by
 obtain ⟨mp,hm,hb⟩:=h.begin i
 have hc':∀ d∈[c],Gd57 a l i d:=fun d hd=>by simp_all
 unfold znb bndP
 rw [hb]
 simp only [z0y,z0c]
 rw [if_pos trivial,zv5 h (by omega) hm hc,z04,if_pos rfl,yd0 h hi hc' (by simp),z04,if_pos rfl,ymn h hi hm hc' (by simp),z04]
theorem y6j (h:GS a l)(hi:i<=l.length)(hc:Gd57 a l i c):zju N0 a (l.take i) c=some 0:=by
 obtain ⟨mp,hm,hb⟩:=h.begin i
 unfold zju bndP
 rw [hb]
 simp only [z0y,z0c]
 rw [if_pos trivial,zv5 h hi hm hc,z04]
theorem yd4 (a b:List Sta)(hl:a.length=b.length)(hb:a.length<=1000000):∀ (m k:Nat),k<=a.length->a.length<m+k->z9b N0 b a (some true) m (k:Int)=some (decide (a.drop k=b.drop k))
 |0,k,h1,h2=>by omega
 |m+1,k,h1,h2=>by
  unfold z9b
  have e:∀ x y:Sta,(decide (x.fScope=y.fScope) && (decide (x.fTime=y.fTime) && true))=decide (x=y):=fun x y=>by
   obtain ⟨v,t⟩:=x
   obtain ⟨v',t'⟩:=y
   simp
  simp only [length_map,z0c,e]
  by_cases h:k<a.length
  ·have h':k<b.length:=by omega
   rw [if_pos (by omega),z0j h,z0j h',drop_eq_getElem_cons h,drop_eq_getElem_cons h',z1o k (by omega)]
   have ih:=yd4 a b hl hb m (k+1) (by omega) (by omega)
   rw [z0y,z0c]
   by_cases e:a[k]=b[k]
   ·have q:(a[k]::a.drop (k+1)=b[k]::b.drop (k+1)) ↔ a.drop (k+1)=b.drop (k+1):=⟨fun h=>(List.cons.inj h).2,fun h=>by rw [e,h]⟩
    simp_all
   ·have q:¬(a[k]::a.drop (k+1)=b[k]::b.drop (k+1)):=fun h=>e (List.cons.inj h).1
    rw [if_neg e,decide_eq_false q]
  grind
theorem ysc (a b:List Sta)(ha:a.length<=1000000):zde N0 a b=some (decide (a=b)):=by
 unfold zde
 simp only [length_map,z0y,z0c]
 by_cases h:a.length=b.length
 ·rw [if_pos (by omega)]
  have:=yd4 a b h ha N0 0 (Nat.zero_le _) (by unfold N0;omega)
  simpa using this
 ·rw [if_neg (by omega)]
  have:a≠b:=fun e=>h (by rw [e])
  simp [this]
theorem y36 (c d:Cf)(h1:c.fBindings.length<=1000000)(h2:c.fStarts.length<=1000000):zf8 N0 c d=some (decide (c=d)):=by
 unfold zf8
 simp only [z2k,z1d,z6r,z0c,yqp _ _ h1,ysc _ _ h2,z04]
 obtain ⟨s,b,t⟩:=c
 obtain ⟨s',b',t'⟩:=d
 simp only [z00.mk.injEq]
 grind
theorem yo6 (c d:Cf)(h1:c.fBindings.length<=1000000)(h2:c.fStarts.length<=1000000)(h3:d.fBindings.length<=1000000)(h4:d.fStarts.length<=1000000):∃ v:Int,zce N0 c d=some v/\(v<0 ↔ zbk c d<0):=by
 have oc:cfOk c=true:=(zfi c).2 ⟨by omega,by omega⟩
 have od:cfOk d=true:=(zfi d).2 ⟨by omega,by omega⟩
 unfold zce
 rw [yq9 N0 (by decide) [c,d] (fun x hx=>by
  grind) (by simp),z04]
 have key:∀ s:List Cf,Str zbk s->(∀ x,x∈s ↔ x∈[c,d])->setL zbk [c,d]=s:=fun s hs hm=>(ygf cfCmp_to (fun x=>(hm x).symm)).trans (y9n cfCmp_to hs)
 rcases cfCmp_to.one c d with hlt|heq|hgt
 ·have e:=key [c,d] (by simp [Str];omega) (fun x=>Iff.rfl)
  rw [e]
  simp only [length_cons,length_nil,z2k,z1d,z2x,z0c,z0y,length_map,z6c,z6e,zu1,y36 c c h1 h2,z04]
  refine ⟨-1,?_,by omega⟩
  simp [z6c,z6e,zu1,y36 c c h1 h2,z04]
 ·have hcd:=(cfCmp_to.zero c d).1 heq
  subst hcd
  have e:=key [c] (by simp [Str]) (fun x=>by simp)
  rw [e]
  refine ⟨0,?_,by omega⟩
  simp [z2k,z1d,z2x,z0c,z6c,z6e]
 ·have hn:=cfCmp_to.neg c d
  have e:=key [d,c] (by simp [Str];omega) (fun x=>by simp [or_comm])
  rw [e]
  have hne:¬d=c:=fun q=>by
   simp_all
  refine ⟨1,?_,by omega⟩
  simp [z2k,z1d,z2x,z0c,z6c,z6e,zu1,y36 d c h3 h4,z04,hne]
variable {α:Type}
theorem y7d {n:Nat}{l:List α}(h:l.length<=1000000000):zay n l=some l:=by unfold zay;exact if_pos h
theorem ycx {l:List Cf}(hl:l.length<=1000000)(hs:∀ c∈l,c.fBindings.length<=1000000/\c.fStarts.length<=1000000)(K:List Cf->Option (List Cf)):∀ (m k:Nat) (out:List Cf),k<=l.length->l.length<m+k->out.length<=k->zbd N0 l K m ((k:Int),out)=K (out++l.drop k)
 |0,k,out,h1,h2,_=>by omega
 |m+1,k,out,h1,h2,h3=>by
  unfold zbd
  simp only [length_map,z0c]
  by_cases h:k<l.length
  ·have hk:=hs _ (getElem_mem h)
   have e1:(⟨l[k].fState,l[k].fBindings,l[k].fStarts⟩:Cf)=l[k]:=rfl
   rw [if_pos (by omega),z0j h,y7d (by omega),z04,y7d (by omega),z04,drop_eq_getElem_cons h,z1o k (by omega),e1,zbi (by simp;omega) (by omega),ycx hl hs K m (k+1) _ (by omega) (by omega) (by simp;omega)]
   simp
  grind
theorem yqe {l:List Cf}(hl:l.length<=1000000)(hs:∀ c∈l,c.fBindings.length<=1000000/\c.fStarts.length<=1000000):zc2 N0 l=some l:=by
 unfold zc2
 have:=ycx hl hs (fun y=>some y) N0 0 [] (Nat.zero_le _) (by unfold N0;omega) (by simp)
 simpa using this
def covd (R:List Mp)(l:List Cf)(d:Cf):Bool:=l.any (fun c=>cov R c d)
variable {R:List Mp}
theorem yhj {l:List Cf}{d:Cf}(hl:l.length<=1000000)(hs:∀ c∈l,CS R c)(hd:CS R d):∀ (m k:Nat),k<=l.length->l.length<m+k->∃ y:Int,z3n N0 d R l (some (-1)) m (k:Int)=some y/\(0<=y ↔ covd R (l.drop k) d=true)
 |0,k,h1,h2=>by omega
 |m+1,k,h1,h2=>by
  unfold z3n zcn
  simp only [length_map,z0c]
  by_cases h:k<l.length
  ·obtain ⟨y,y1,y2⟩:=yhj hl hs hd m (k+1) (by omega) (by omega)
   rw [if_pos (by omega),z0j h,yo3 (hs _ (getElem_mem h)) hd,z04,z04,drop_eq_getElem_cons h,z1o k (by omega)]
   unfold covd at y2 ⊢
   rw [any_cons]
   cases hc:cov R l[k] d
   ·rw [z6e];simp_all
   ·rw [z6c];exact ⟨k,rfl,by simp⟩
  ·rw [if_neg (by omega),drop_eq_nil_of_le (by omega)]
   exact ⟨-1,rfl,by simp [covd]⟩
theorem y7a {l:List Cf}{d:Cf}(hl:l.length<=1000000)(hs:∀ c∈l,CS R c)(hd:CS R d):za6 N0 l d R=some (covd R l d):=by
 obtain ⟨y,y1,y2⟩:=yhj hl hs hd N0 0 (Nat.zero_le _) (by unfold N0;omega)
 unfold za6 zaz zcl
 have e:z3n N0 d R l (some (-1)) N0 0=some y:=by simpa using y1
 rw [e,z04,z04]
 simp_all
variable {S:List (List Cf)}
theorem yhi {l:List Cf}(hi:i+1<S.length)(hi2:i<=1000)(hS:S[i+1].length<=1000000)(hSc:∀ c∈S[i+1],CS R c)(hl:l.length<=1000000)(hs:∀ c∈l,CS R c):∀ (m k:Nat),k<=l.length->l.length<m+k->∃ y:Int,z3m N0 (i:Int) ⟨S⟩ R l (some (-1)) m (k:Int)=some y/\(y<0 ↔ (l.drop k).all (covd R S[i+1])=true)
 |0,k,h1,h2=>by omega
 |m+1,k,h1,h2=>by
  unfold z3m ze8
  simp only [length_map,z0c]
  by_cases h:k<l.length
  ·obtain ⟨y,y1,y2⟩:=yhi hi hi2 hS hSc hl hs m (k+1) (by omega) (by omega)
   rw [if_pos (by omega),z0j h,z1o i (by omega),z0j hi,y7a hS hSc (hs _ (getElem_mem h)),z04,z04,drop_eq_getElem_cons h,z1o k (by omega),all_cons]
   cases hc:covd R S[i+1] l[k]
   ·rw [show (!false)=true from rfl,z6c];exact ⟨k,rfl,by simp⟩
   ·rw [show (!true)=false from rfl,z6e];simp_all
  ·rw [if_neg (by omega),drop_eq_nil_of_le (by omega)]
   exact ⟨-1,rfl,by simp⟩
theorem yho {l:List Cf}(hi:i+1<S.length)(hi2:i<=1000)(hS:S[i+1].length<=1000000)(hSc:∀ c∈S[i+1],CS R c)(hl:l.length<=1000000)(hs:∀ c∈l,CS R c):z8p N0 l R ⟨S⟩ (i:Int)=some (!l.all (covd R S[i+1])):=by
 obtain ⟨y,y1,y2⟩:=yhi hi hi2 hS hSc hl hs N0 0 (Nat.zero_le _) (by unfold N0;omega)
 unfold z8p zck
 have e:z3m N0 (i:Int) ⟨S⟩ R l (some (-1)) N0 0=some y:=by simpa using y1
 rw [e,z04]
 grind
theorem ype (a:Aut)(held:List Ev)(c:Cf)(e:Ev):(cfN a held [c] e).length<=a.fEdges.length+1:=by
 unfold cfN
 refine Nat.le_trans (zwx _) ?_
 have:=zrr (a:=a) (held:=held) (c:=c) (e:=e)
 have h2:(cfO (outP a held c e)).length<=(outP a held c e).length:=by unfold cfO;exact length_filter_le _ _
 simp
 omega
noncomputable def okC (a:Aut)(l:List Ev)(S:List (List Cf))(i:Nat)(e:Ev)(c:Cf):Bool:=(maN a l [c] e).isEmpty && (cfN a l [c] e).all (covd (zg7 a) (S.getD (i+1) []))
noncomputable def vOk (a:Aut)(l:List Ev)(S:List (List Cf)):List Ev->Nat->Bool
 |[],_=>true
 |e::r,i=>(S.getD i []).all (okC a l S i e) && vOk a l S r (i+1)
theorem y2v (a:Aut)(l:List Ev)(S:List (List Cf))(e:Ev)(r:List Ev)(i:Nat):vOk a l S (e::r) i=((S.getD i []).all (okC a l S i e) && vOk a l S r (i+1)):=rfl
structure zku (a:Aut) (l:List Ev) (S:List (List Cf)):Prop where
 ln:S.length=l.length+1
 few:∀ i (hi:i<S.length),S[i].length<=4096
 gd:∀ i (hi:i<S.length),∀ c∈S[i],Gd57 a l i c
theorem zku.cs (h:GS a l)(hS:zku a l S)(hi:i<S.length):∀ c∈S[i],CS (zg7 a) c:=fun c hc=>(hS.gd i hi c hc).cs h (by have:=hS.ln;have:=h.len;omega)
theorem ycl (h:GS a l)(hS:zku a l S)(hi:i<l.length)(hi1:i<S.length)(K:Option Int):∀ (m k:Nat),k<=S[i].length->S[i].length<m+k->z3c N0 ⟨S⟩ l a (zg7 a,(i:Int)) l[i] S[i] K m (k:Int)=if (S[i].drop k).all (okC a l S i l[i])=true then K else some 18
 |0,k,h1,h2=>by omega
 |m+1,k,h1,h2=>by
  have hf:=hS.few i hi1
  have hln:=h.len
  have hsn:=hS.ln
  unfold z3c
  simp only [length_map,z0c,z0y,z2k,z1d,z4q]
  by_cases hk:k<S[i].length
  ·have hc:=hS.gd i hi1 _ (getElem_mem hk)
   have hsl:∀ (K:List Ev->Option Int),sls l 0 (i:Int) K=K (l.take i):=fun K=>by
    have:=zmq (l:=l) (a:=0) (b:=i) (Nat.zero_le _) (by omega) K
    simpa using this
   rw [if_pos (by omega),z0j hk,hsl,ykq h hi hc,z04,if_pos rfl,drop_eq_getElem_cons hk,all_cons,z1o k (by omega)]
   have ih:=ycl h hS hi hi1 K m (k+1) (by omega) (by omega)
   have hg:S.getD (i+1) []=S[i+1]'(by omega):=by rw [getD_eq_getElem?_getD,getElem?_eq_getElem (by omega)];rfl
   have hnx:=Gd57.next h hi (cs:=[S[i][k]]) (fun c hc'=>by simp_all)
   by_cases hm:maN a l [S[i][k]] l[i]=[]
   ·have c233:=yho (R:=zg7 a) (S:=S) (l:=cfN a l [S[i][k]] l[i]) (i:=i) (by omega) (by omega) (by have:=hS.few (i+1) (by omega);omega) (hS.cs h (by omega)) (by have:=ype a l S[i][k] l[i];have:=h.edges;omega) (fun c hc'=>(hnx c hc').cs h (by omega))
    have hok:okC a l S i l[i] S[i][k]=(cfN a l [S[i][k]] l[i]).all (covd (zg7 a) (S[i+1]'(by omega))):=by unfold okC;rw [hm,hg];simp
    rw [hm,if_neg (by simp),c233,z04,hok]
    cases hb:(cfN a l [S[i][k]] l[i]).all (covd (zg7 a) (S[i+1]'(by omega)))
    ·rw [show (!false)=true from rfl,z6c];simp
    ·rw [show (!true)=false from rfl,z6e,Bool.true_and];exact ih
   ·have hok:okC a l S i l[i] S[i][k]=false:=by
     unfold okC
     rw [isEmpty_eq_false_iff.2 hm]
     rfl
    have:0<(maN a l [S[i][k]] l[i]).length:=length_pos_iff.2 hm
    rw [if_pos (by simp_all),z6c,hok,if_neg (by simp)]
  grind
theorem ycm (h:GS a l)(hS:zku a l S):∀ (m i:Nat),i<=l.length->l.length<m+i->z4p N0 ⟨S⟩ l a (some 0) m (zg7 a,(i:Int))=if vOk a l S (l.drop i) i=true then some 0 else some 18
 |0,i,h1,h2=>by omega
 |m+1,i,h1,h2=>by
  have hln:=h.len
  have hsn:=hS.ln
  unfold z4p
  simp only [length_map,z0c]
  by_cases hi:i<l.length
  ·have hi1:i<S.length:=by omega
   have hf:=hS.few i hi1
   rw [if_pos (by omega),z0j hi,z0j hi1,z1o i (by omega)]
   have l2:=ycl h hS hi hi1 (z4p N0 ⟨S⟩ l a (some 0) m (zg7 a,((i+1:Nat):Int))) N0 0 (Nat.zero_le _) (by unfold N0;omega)
   refine (l2).trans ?_
   have hg:S.getD i []=S[i]:=by rw [getD_eq_getElem?_getD,getElem?_eq_getElem hi1];rfl
   rw [ycm h hS m (i+1) (by omega) (by omega),drop_zero,drop_eq_getElem_cons hi]
   rw [y2v,hg]
   grind
  ·rw [if_neg (by omega),drop_eq_nil_of_le (by omega)]
   rfl
theorem y73 (h:GS a l)(hS:zku a l S)(hi1:i<S.length)(hst:Str zbk S[i])(K:Option Int):∀ (m k:Nat),k<=S[i].length->S[i].length<m+k->z6s N0 ⟨S⟩ l a (i:Int) S[i] K m (k:Int)=K
 |0,k,h1,h2=>by omega
 |m+1,k,h1,h2=>by
  have hf:=hS.few i hi1
  have hln:=h.len
  have hsn:=hS.ln
  unfold z6s
  simp only [length_map,z0c,z0y,z2k,z1d,z8v]
  by_cases hk:k<S[i].length
  ·have hc:=hS.gd i hi1 _ (getElem_mem hk)
   have hsl:∀ (K:List Ev->Option Int),sls l 0 (i:Int) K=K (l.take i):=fun K=>by
    have:=zmq (l:=l) (a:=0) (b:=i) (Nat.zero_le _) (by omega) K
    simpa using this
   have ih:=y73 h hS hi1 hst K m (k+1) (by omega) (by omega)
   rw [if_pos (by omega),z0j hk,hsl,y6j h (by omega) hc,z04,if_pos rfl,z1o k (by omega)]
   by_cases h0:k=0
   ·subst h0
    rw [if_neg (by simp),z6e]
    exact ih
   ·obtain ⟨j,rfl⟩:∃ j,k=j+1:=⟨k-1,by omega⟩
    have hj:j<S[i].length:=by omega
    have hcj:=(hS.cs h hi1) _ (getElem_mem hj)
    have hck:=(hS.cs h hi1) _ (getElem_mem hk)
    have e1:IntKind.wrap .i64 (((j+1:Nat):Int)-1)=(j:Int):=by rw [zex _ (by omega)];omega
    obtain ⟨v,v1,v2⟩:=yo6 S[i][j] S[i][j+1] hcj.lb hcj.ls hck.lb hck.ls
    have hlt:zbk S[i][j] S[i][j+1]<0:=pairwise_iff_getElem.1 hst j (j+1) hj hk (by omega)
    have hv:=v2.2 hlt
    rw [if_pos (by omega),e1,z0j hj,v1,z04,if_neg (by omega)]
    exact ih
  ·rw [if_neg (by omega)]
theorem y74 (h:GS a l)(hS:zku a l S)(hst:∀ i (hi:i<S.length),Str zbk S[i]):∀ (m i:Nat),i<=S.length->S.length<m+i->zar N0 ⟨S⟩ l a (some 0) m (i:Int)=some 0
 |0,i,h1,h2=>by omega
 |m+1,i,h1,h2=>by
  have hln:=h.len
  have hsn:=hS.ln
  unfold zar
  simp only [length_map,z0c]
  by_cases hi:i<S.length
  ·have hf:=hS.few i hi
   rw [if_pos (by omega),z0j hi,if_neg (by omega),z1o i (by omega),y74 h hS hst m (i+1) (by omega) (by omega)]
   exact y73 h hS hi (hst i hi) _ N0 0 (Nat.zero_le _) (by unfold N0;omega)
  ·rw [if_neg (by omega)]
theorem yml (h:GS a l)(hS:zku a l S)(hst:∀ i (hi:i<S.length),Str zbk S[i]):zcy N0 a l ⟨S⟩=some 0:=by
 have hln:=h.len
 have hsn:=hS.ln
 unfold zcy
 simp only [length_map,z0c,z0y]
 rw [z1o l.length (by omega),if_pos (by omega)]
 exact y74 h hS hst N0 0 (Nat.zero_le _) (by unfold N0;omega)
theorem cs0 (h:GS a l):CS (zg7 a) cf0:=(gd0 h).cs h (by omega)
theorem yck (h:GS a l)(hS:zku a l S)(hf:zcy N0 a l ⟨S⟩=some 0):z3a N0 a l ⟨S⟩=some (if (covd (zg7 a) (S.getD 0 []) cf0 && vOk a l S l 0)=true then 0 else 18):=by
 have hln:=h.len
 have hsn:=hS.ln
 have h0:0<S.length:=by omega
 have hg:S.getD 0 []=S[0]:=by rw [getD_eq_getElem?_getD,getElem?_eq_getElem h0];rfl
 have hck:=y7e h l.length
 rw [take_length] at hck
 have hr:z3z N0 a=some (zg7 a):=by
  unfold z3z
  rw [y1i h.wf h.ok (fun x hx=>(h.wf.ed x hx).lc),z04]
 have hi0:∀ (K:List Cf->Option Int),idx S 0 K=K S[0]:=fun K=>by
  have:=z0j (l:=S) (i:=0) h0 K
  simpa using this
 have l1:=ycm h hS N0 0 (Nat.zero_le _) (by unfold N0;omega)
 have l1':z4p N0 ⟨S⟩ l a (some 0) N0 (zg7 a,0)=if vOk a l S l 0=true then some 0 else some 18:=by simpa using l1
 unfold z3a
 have hf0:=hS.few 0 h0
 have e0:zfl N0=some cf0:=rfl
 rw [hck,z04,z0y,z0c,if_pos rfl,hf,z04,z0y,z0c,if_pos rfl,hr,z8n,ydw,ydw,z1d,hi0,e0,z04,y7a (by omega) (hS.cs h h0) (cs0 h),z04,l1',hg]
 cases covd (zg7 a) S[0] cf0
 ·rw [show (!false)=true from rfl,z6c];simp
 ·rw [show (!true)=false from rfl,z6e]
  cases vOk a l S l 0<;>simp
theorem yi4 {α:Type}[DecidableEq α]:∀ {l m:List α},l.Nodup->(∀ x∈l,x∈m)->l.length<=m.length
 |[],m,_,_=>by simp
 |x::r,m,h1,h2=>by
  have hx:=h2 x (by simp)
  have h3:=nodup_cons.1 h1
  have ih:=yi4 (m:=m.erase x) h3.2 (fun y hy=>(mem_erase_of_ne (fun e=>h3.1 (by rw [<-e];exact hy))).2 (h2 y (mem_cons_of_mem _ hy)))
  rw [length_erase_of_mem hx] at ih
  have:0<m.length:=length_pos_of_mem hx
  simp only [length_cons]
  omega
theorem yjg {β:Type}(l:List α)(k:List α->Option β):bldS l k=k l:=rfl
theorem yrm {β:Type}(l:List α)(k:List α->Option β):bld l k=k l:=rfl
theorem yma {c:α->α->Int}(h:TO c){l:List α}(hl:Str c l):l.Nodup:=by
 refine Pairwise.imp (fun {x y} hxy e=>?_) hl
 subst e
 have:=(h.zero x x).2 rfl
 omega
theorem ym6 {held:List Ev}:∀ (p r:List Ev) (cs:List Cf) (ms:List Ma),(wiP 150 a held (p++r) cs ms).2.2=true->(wiP 150 a held p cs ms).2.2=true
 |[],r,cs,ms,h=>rfl
 |f::p,r,cs,ms,h=>by
  rw [cons_append] at h
  unfold wiP at h ⊢
  split at h
  ·cases h
  ·rename_i q
   rw [if_neg q]
   exact ym6 p r _ _ h
noncomputable def xsI (a:Aut)(l:List Ev)(i:Nat):List Cf:=(wiP 150 a l (l.take i) [cf0] []).1
noncomputable def msI (a:Aut)(l:List Ev)(i:Nat):List Ma:=(wiP 150 a l (l.take i) [cf0] []).2.1
theorem ypp (h:GS a l)(i:Nat):wiP 150 a l (l.take i) [cf0] []=(xsI a l i,msI a l i,true):=by
 have h1:=h.sm
 rw [<-take_append_drop i l] at h1
 have h2:=ym6 (l.take i) (l.drop i) [cf0] [] (by rw [take_append_drop] at h1 ⊢;exact h1)
 unfold xsI msI
 rw [<-h2]
theorem zq3 (a:Aut)(l:List Ev):xsI a l 0=[cf0]/\msI a l 0=[]:=by unfold xsI msI;rw [take_zero];exact ⟨rfl,rfl⟩
theorem zkx (h:GS a l)(hi:i<l.length):xsI a l (i+1)=cfN a l (xsI a l i) l[i]/\msI a l (i+1)=puts zbv (msI a l i) (maN a l (xsI a l i) l[i])/\(xsI a l (i+1)).length<=150/\(msI a l (i+1)).length<=150:=by
 have e:l.take (i+1)=l.take i++[l[i]]:=by rw [take_append_getElem]
 have h1:=ypp h (i+1)
 rw [e] at h1
 obtain ⟨x,m,q1,q2,q3,q4⟩:=yc2 (l.take i) [cf0] [] (by rw [h1])
 rw [ypp h i] at q1
 injection q1 with w1 w2
 injection w2 with w2 _
 rw [<-w1] at q2 q3 q4
 rw [<-w2] at q2 q4
 rw [h1] at q2
 injection q2 with v1 v2
 injection v2 with v2 _
 rw [<-v1] at q3
 rw [<-v2] at q4
 exact ⟨v1,v2,q3,q4⟩
theorem ypq (h:GS a l)(hi:i<=l.length):(xsI a l i).length<=150:=by
 cases i with
 |zero=>rw [(zq3 a l).1];simp
 |succ i=>exact (zkx h (by omega)).2.2.1
theorem ypo (h:GS a l)(hi:i<=l.length):Str zbk (xsI a l i):=by
 cases i with
 |zero=>rw [(zq3 a l).1];simp [Str]
 |succ i=>rw [(zkx h (by omega)).1];exact zo3 cfCmp_to _
theorem ypr (h:GS a l):∀ {i:Nat},i<=l.length->∀ c∈xsI a l i,Gd57 a l i c
 |0,hi=>fun c hc=>by
  rw [(zq3 a l).1] at hc
  rw [mem_singleton.1 hc]
  exact gd0 h
 |i+1,hi=>fun c hc=>by
  rw [(zkx h (by omega)).1] at hc
  exact Gd57.next h (by omega) (ypr h (by omega)) c hc
theorem y50 {held:List Ev}{cs xs:List Cf}(h:∀ c∈cs,c∈xs)(e:Ev):∀ d∈cfN a held cs e,d∈cfN a held xs e:=fun d hd=>by
 unfold cfN at hd ⊢
 rw [zh9 cfCmp_to,mem_flatMap] at hd ⊢
 obtain ⟨c,h1,h2⟩:=hd
 exact ⟨c,h c h1,h2⟩
theorem zx7 {held:List Ev}{cs xs:List Cf}(h:∀ c∈cs,c∈xs)(e:Ev):∀ d∈maN a held cs e,d∈maN a held xs e:=fun d hd=>by
 unfold maN at hd ⊢
 rw [zh9 zg1,mem_flatMap] at hd ⊢
 obtain ⟨c,h1,h2⟩:=hd
 exact ⟨c,h c h1,h2⟩
structure Sb (a:Aut) (l:List Ev) (i:Nat) (cs:List Cf):Prop where
 sub:∀ c∈cs,c∈xsI a l i
 str:Str zbk cs
theorem Sb.len (h:GS a l)(hi:i<=l.length){cs:List Cf}(hc:Sb a l i cs):cs.length<=150 :=
 Nat.le_trans (yi4 (yma cfCmp_to hc.str) hc.sub) (ypq h hi)
theorem Sb.gd (h:GS a l)(hi:i<=l.length){cs:List Cf}(hc:Sb a l i cs):∀ c∈cs,Gd57 a l i c:=fun c hcc=>ypr h hi c (hc.sub c hcc)
theorem Sb.next (h:GS a l)(hi:i<l.length){cs:List Cf}(hc:Sb a l i cs):Sb a l (i+1) (cfN a l cs l[i]) :=
 ⟨by rw [(zkx h hi).1];exact y50 hc.sub _,zo3 cfCmp_to _⟩
theorem Sb.ma (h:GS a l)(hi:i<l.length){cs:List Cf}(hc:Sb a l i cs):(∀ d∈maN a l cs l[i],d∈msI a l (i+1))/\(maN a l cs l[i]).length<=150:=by
 have h1:∀ d∈maN a l cs l[i],d∈msI a l (i+1):=fun d hd=>by
  rw [(zkx h hi).2.1,zrp zg1]
  exact Or.inr (zx7 hc.sub _ d hd)
 exact ⟨h1,Nat.le_trans (yi4 (yma zg1 (zo3 zg1 _)) h1) (zkx h hi).2.2.2⟩
theorem Sb.adv (h:GS a l)(hi:i<l.length){cs:List Cf}(hc:Sb a l i cs):zfm N0 a (l.take i) cs l[i]=some (cfN a l cs l[i],maN a l cs l[i],0) :=
 yob h hi (hc.gd h (by omega)) (by have:=hc.len h (by omega);omega) (by have:=(hc.next h hi).len h (by omega);omega) (by have:=(hc.ma h hi).2;omega)
theorem Sb.red {cs:List Cf}(hc:Sb a l i cs)(R:List Mp):Sb a l i (redP R cs) :=
 ⟨fun c h=>hc.sub c ((zoa R cs).subset h),Pairwise.sublist (zoa R cs) hc.str⟩
noncomputable def bS (f:List Cf->List Cf)(a:Aut)(l:List Ev):List Ev->List Cf->List (List Cf)->List (List Cf)×Int
 |[],_,acc=>(acc,0)
 |e::r,cs,acc=>if maN a l cs e=[] then bS f a l r (f (cfN a l cs e)) (acc++[f (cfN a l cs e)]) else ([],22)
theorem ybs (f:List Cf->List Cf)(a:Aut)(l:List Ev)(e:Ev)(r:List Ev)(cs:List Cf)(acc:List (List Cf)):bS f a l (e::r) cs acc=if maN a l cs e=[] then bS f a l r (f (cfN a l cs e)) (acc++[f (cfN a l cs e)]) else ([],22):=rfl
theorem Sb.sizes (h:GS a l)(hi:i<=l.length){cs:List Cf}(hc:Sb a l i cs):∀ c∈cs,c.fBindings.length<=1000000/\c.fStarts.length<=1000000:=fun c hcc=>by
 have:=(hc.gd h hi c hcc).cs h (by have:=h.len;omega)
 exact ⟨this.lb,this.ls⟩
theorem y6h (h:GS a l):∀ (m i:Nat) (cs:List Cf) (out:List (List Cf)),i<=l.length->l.length<m+i->(ho:out.length=i+1)->out[i]=cs->Sb a l i cs->zaq N0 l a (fun y=>some (y,0)) m ((i:Int),out)=some (bS id a l (l.drop i) cs out)
 |0,i,cs,out,h1,h2,_,_,_=>by omega
 |m+1,i,cs,out,h1,h2,h3,h4,hc=>by
  have hln:=h.len
  unfold zaq
  simp only [length_map,z0c,z0y]
  by_cases hi:i<l.length
  ·have hsl:∀ (K:List Ev->Option (List (List Cf)×Int)),sls l 0 (i:Int) K=K (l.take i):=fun K=>by
    have:=zmq (l:=l) (a:=0) (b:=i) (Nat.zero_le _) (by omega) K
    simpa using this
   have hn:=hc.next h hi
   rw [if_pos (by omega),z0j hi,hsl,zf1 (by omega),zid (by omega),h4,hc.adv h hi,z04,if_pos rfl,drop_eq_getElem_cons hi,ybs,z1o i (by omega)]
   by_cases hm:maN a l cs l[i]=[]
   ·rw [if_neg (by rw [hm];simp),if_pos hm,yqe (by have:=hn.len h (by omega);omega) (hn.sizes h (by omega)),z04]
    rw [yjg,zbi (by simp;omega) (by omega)]
    exact y6h h m (i+1) (cfN a l cs l[i]) _ (by omega) (by omega) (by simp;omega) (by rw [getElem_append_right (by omega)];simp [h3]) hn
   ·have:0<(maN a l cs l[i]).length:=length_pos_iff.2 hm
    rw [if_pos (by show (0:Int)<((maN a l cs l[i]).length:Int);omega),if_neg hm]
  ·rw [if_neg (by omega),drop_eq_nil_of_le (by omega)]
   rfl
theorem sb0 (a:Aut)(l:List Ev):Sb a l 0 [cf0]:=⟨fun c hc=>by rw [(zq3 a l).1];exact hc,by simp [Str]⟩
theorem yqa (h:GS a l):zf7 N0 a l=some (bS id a l l [cf0] [[cf0]]):=by
 have:=y6h h N0 0 [cf0] [[cf0]] (Nat.zero_le _) (by have:=h.len;unfold N0;omega) rfl rfl (sb0 a l)
 unfold zf7
 have e0:zfl N0=some cf0:=rfl
 rw [e0,z04,yjg,yrm]
 simpa using this
theorem yfq:z83 2000000000=some true:=by kernel_rfl
theorem GS.of (hw:WfA a)(h1:z9t N0 a l=some true)(h2:z6q N0 a l=some 0):GS a l:=by
 obtain ⟨b,b1,b2⟩:=ygz a hw l
 rw [h1] at b1
 obtain rfl:=Option.some.inj b1
 obtain ⟨hf,hl,q,hb,hs⟩:=b2 rfl
 have hq:q=0:=by
  have e:z2q N0 a l=z6q N0 a l:=by unfold z2q z6q;rfl
  rw [e,h2] at hb
  exact (Option.some.inj hb).symm
 obtain ⟨p,p1,p2⟩:=yaj a hw l (by omega)
 rw [hb] at p1
 obtain rfl:=Option.some.inj p1
 rcases p2 with ⟨h',_⟩|⟨_,ha,hso,hck,hst,_⟩
 ·exact absurd hq h'
 obtain ⟨r,r1,r2,r3⟩:=ydh N0 (by decide) a hw
 rw [hck] at r1
 obtain rfl:=Option.some.inj r1
 exact ⟨hw,hf,ha,hck,r2,hst,hl,hs hq⟩
def NM (a:Aut)(l:List Ev)(i:Nat):Prop:=∀ j,i<=j->(hj:j<l.length)->maN a l (xsI a l j) l[j]=[]
theorem ygu {s m:List Ma}:puts zbv s m=[] ↔ s=[]/\m=[]:=by
 constructor
 ·intro h
  have k:=fun z=>zrp zg1 z m s
  rw [h] at k
  exact ⟨eq_nil_iff_forall_not_mem.2 (fun z hz=>by simp_all),eq_nil_iff_forall_not_mem.2 (fun z hz=>by have:=(k z).2 (Or.inr hz);simp at this)⟩
 ·rintro ⟨rfl,rfl⟩
  rfl
theorem yi2 (h:GS a l):msI a l l.length=[] ↔ NM a l 0:=by
 have key:∀ i,i<=l.length->(msI a l i=[] ↔ ∀ j,(hj:j<l.length)->j<i->maN a l (xsI a l j) l[j]=[]):=by
  intro i
  induction i with
  |zero=>intro _;rw [(zq3 a l).2];simp
  |succ i ih =>
   intro hi
   rw [(zkx h (by omega)).2.1,ygu,ih (by omega)]
   grind
 rw [key l.length (Nat.le_refl _)]
 exact ⟨fun hq j _ hj=>hq j hj hj,fun hq j hj _=>hq j (Nat.zero_le _) hj⟩
noncomputable def tS (f:List Cf->List Cf)(a:Aut)(l:List Ev):List Ev->List Cf->List (List Cf)
 |[],_=>[]
 |e::r,cs=>f (cfN a l cs e)::tS f a l r (f (cfN a l cs e))
theorem zxl (f:List Cf->List Cf)(a:Aut)(l:List Ev)(e:Ev)(r:List Ev)(cs:List Cf):tS f a l (e::r) cs=f (cfN a l cs e)::tS f a l r (f (cfN a l cs e)):=rfl
theorem zxk (f:List Cf->List Cf)(a:Aut)(l:List Ev):∀ (r:List Ev) (cs:List Cf),(tS f a l r cs).length=r.length
 |[],_=>rfl
 |e::r,cs=>by rw [zxl,length_cons,length_cons,zxk f a l r]
structure Ch (a:Aut) (l:List Ev) (f:List Cf->List Cf):Prop where
 sub:∀ i cs,Sb a l i cs->Sb a l i (f cs)
 cov:∀ cs,∀ c∈cs,covd (zg7 a) (f cs) c=true
theorem ym2 (a:Aut)(l:List Ev):Ch a l id:=⟨fun i cs h=>h,fun cs c hc=>any_eq_true.2 ⟨c,hc,zxc _ _⟩⟩
theorem yn2 (a:Aut)(l:List Ev):Ch a l (redP (zg7 a)):=⟨fun i cs h=>h.red _,fun cs c hc=>by
 obtain ⟨y,h1,h2⟩:=ynf (zg7 a) hc
 exact any_eq_true.2 ⟨y,h1,h2⟩⟩
theorem yao {cs xs:List Ma}(h:∀ c∈cs,c∈xs)(e:xs=[]):cs=[]:=eq_nil_iff_forall_not_mem.2 (fun z hz=>by simp_all)
variable {f:List Cf->List Cf}
theorem yjj (h:GS a l)(hf:Ch a l f):∀ (n i:Nat) (cs:List Cf) (acc:List (List Cf)),i+n=l.length->Sb a l i cs->NM a l i->bS f a l (l.drop i) cs acc=(acc++tS f a l (l.drop i) cs,0)
 |0,i,cs,acc,h1,h2,h3=>by
  rw [drop_eq_nil_of_le (by omega)]
  show (acc,(0:Int))=(acc++[],0)
  rw [append_nil]
 |n+1,i,cs,acc,h1,h2,h3=>by
  have hi:i<l.length:=by omega
  rw [drop_eq_getElem_cons hi,ybs,zxl,if_pos (yao (zx7 h2.sub _) (h3 i (Nat.le_refl _) hi)),yjj h hf n (i+1) _ _ (by omega) (hf.sub _ _ (h2.next h hi)) (fun j hj hjl=>h3 j (by omega) hjl)]
  simp
theorem yji (h:GS a l):∀ (n i:Nat) (acc:List (List Cf)),i+n=l.length->¬NM a l i->bS id a l (l.drop i) (xsI a l i) acc=([],22)
 |0,i,acc,h1,h3=>absurd (fun j hj hjl=>by omega) h3
 |n+1,i,acc,h1,h3=>by
  have hi:i<l.length:=by omega
  rw [drop_eq_getElem_cons hi,ybs]
  by_cases hm:maN a l (xsI a l i) l[i]=[]
  ·rw [if_pos hm]
   have:=yji h n (i+1) (acc++[xsI a l (i+1)]) (by omega) (fun hq=>h3 (fun j hj hjl=>by
    by_cases e:j=i
    ·subst e;exact hm
    ·exact hq j (by omega) hjl))
   rw [(zkx h hi).1] at this
   exact this
  ·rw [if_neg hm]
theorem yg7 (h:GS a l)(hf:Ch a l f):∀ (n i:Nat) (cs:List Cf),i+n=l.length->Sb a l i cs->S.drop i=cs::tS f a l (l.drop i) cs->∀ j (hj:j<S.length),i<=j->Sb a l j S[j]
 |0,i,cs,h1,h2,h3,j,hj,hij=>by
  have hl:(S.drop i).length=1:=by rw [h3,length_cons,zxk,length_drop];omega
  rw [length_drop] at hl
  obtain rfl:j=i:=by omega
  rw [drop_eq_getElem_cons hj] at h3
  grind
 |n+1,i,cs,h1,h2,h3,j,hj,hij=>by
  have hi:i<l.length:=by omega
  have hiS:i<S.length:=by
   have:(S.drop i).length=l.length-i+1:=by rw [h3,length_cons,zxk,length_drop]
   rw [length_drop] at this
   omega
  rw [drop_eq_getElem_cons hiS] at h3
  obtain ⟨e1,e2⟩:=List.cons.inj h3
  by_cases e:j=i
  ·simp_all
  ·rw [drop_eq_getElem_cons hi,zxl] at e2
   exact yg7 h hf n (i+1) _ (by omega) (hf.sub _ _ (h2.next h hi)) e2 j hj (by omega)
theorem ym8 (h:GS a l)(hf:Ch a l f)(hS:S.length=l.length+1):∀ (n i:Nat) (cs:List Cf),i+n=l.length->Sb a l i cs->NM a l i->S.drop i=cs::tS f a l (l.drop i) cs->vOk a l S (l.drop i) i=true
 |0,i,cs,h1,h2,h4,h3=>by rw [drop_eq_nil_of_le (by omega)];rfl
 |n+1,i,cs,h1,h2,h4,h3=>by
  have hi:i<l.length:=by omega
  rw [drop_eq_getElem_cons (by omega:i<S.length)] at h3
  obtain ⟨e1,e2⟩:=List.cons.inj h3
  rw [drop_eq_getElem_cons hi,zxl] at e2
  have ih:=ym8 h hf hS n (i+1) _ (by omega) (hf.sub _ _ (h2.next h hi)) (fun j hj hjl=>h4 j (by omega) hjl) e2
  rw [drop_eq_getElem_cons (by omega:i+1<S.length)] at e2
  have e3:=(List.cons.inj e2).1
  have g1:S.getD i []=cs:=by rw [getD_eq_getElem?_getD,getElem?_eq_getElem (by omega),Option.getD_some,e1]
  have g2:S.getD (i+1) []=f (cfN a l cs l[i]):=by rw [getD_eq_getElem?_getD,getElem?_eq_getElem (by omega),Option.getD_some,e3]
  rw [drop_eq_getElem_cons hi,y2v,ih,Bool.and_true,g1,all_eq_true]
  intro c hc
  have hs:∀ d∈[c],d∈cs:=fun d hd=>by simp_all
  unfold okC
  rw [g2,Bool.and_eq_true,isEmpty_iff,all_eq_true]
  exact ⟨yao (zx7 (fun d hd=>h2.sub d (hs d hd)) _) (h4 i (Nat.le_refl _) hi),fun d hd=>hf.cov _ d (y50 hs _ d hd)⟩
noncomputable def refS (f:List Cf->List Cf)(a:Aut)(l:List Ev):List (List Cf):=[cf0]::tS f a l l [cf0]
theorem ygk (h:GS a l)(hf:Ch a l f):zku a l (refS f a l)/\(∀ i (hi:i<(refS f a l).length),Sb a l i (refS f a l)[i]):=by
 have hl:(refS f a l).length=l.length+1:=by unfold refS;rw [length_cons,zxk]
 have hs:∀ i (hi:i<(refS f a l).length),Sb a l i (refS f a l)[i]:=fun i hi=>yg7 h hf l.length 0 [cf0] (by omega) (sb0 a l) (by rw [drop_zero,drop_zero];rfl) i hi (Nat.zero_le _)
 exact ⟨⟨hl,fun i hi=>by have:=(hs i hi).len h (by omega);omega,fun i hi=>(hs i hi).gd h (by omega)⟩,hs⟩
theorem ync (h:GS a l)(hf:Ch a l f)(hn:NM a l 0):z3a N0 a l ⟨refS f a l⟩=some 0:=by
 obtain ⟨h1,h2⟩:=ygk h hf
 rw [yck h h1 (yml h h1 (fun i hi=>(h2 i hi).str))]
 have hv:=ym8 h hf h1.ln l.length 0 [cf0] (by omega) (sb0 a l) hn (by rw [drop_zero,drop_zero];rfl)
 rw [drop_zero] at hv
 have hc:covd (zg7 a) ((refS f a l).getD 0 []) cf0=true:=any_eq_true.2 ⟨cf0,mem_singleton.2 rfl,zxc _ _⟩
 rw [hv,hc]
 rfl
theorem yo2 (h:GS a l):z3z N0 a=some (zg7 a):=by
 unfold z3z
 rw [y1i h.wf h.ok (fun x hx=>(h.wf.ed x hx).lc),z04]
theorem yah (h:GS a l):z8x N0 a l=some 0:=by
 have:=y7e h l.length
 simp_all
theorem yo8 (h:GS a l):zby N0 a l=some (match msI a l l.length with|[]=>(⟨refS id a l⟩,0)|_::_=>(⟨[]⟩,22)):=by
 unfold zby
 rw [yah h,z04,z0y,z0c,if_pos rfl,yqa h,z04]
 cases hm:msI a l l.length with
 |nil =>
  have hn:=(yi2 h).1 hm
  have hb:=yjj h (ym2 a l) l.length 0 [cf0] [[cf0]] (by omega) (sb0 a l) hn
  rw [drop_zero] at hb
  rw [hb]
  rfl
 |cons m r =>
  have hn:¬NM a l 0:=fun hq=>by rw [(yi2 h).2 hq] at hm;cases hm
  have hb:=yji h l.length 0 [[cf0]] (by omega) hn
  rw [drop_zero,(zq3 a l).1] at hb
  rw [hb]
variable {A:List (List Cf)}
theorem y6i {B:List (List Cf)}(hl:A.length=B.length)(hA:A.length<=1000000)(hok:∀ x∈A,x.length<=1000000/\∀ c∈x,cfOk c=true)(hokB:∀ x∈B,∀ c∈x,cfOk c=true):∀ (m k:Nat),k<=A.length->A.length<m+k->z8d N0 ⟨B⟩ ⟨A⟩ (some true) m (k:Int)=some (decide (A.drop k=B.drop k))
 |0,k,h1,h2=>by omega
 |m+1,k,h1,h2=>by
  unfold z8d
  simp only [length_map,z0c]
  by_cases h:k<A.length
  ·have h':k<B.length:=by omega
   have hk:=hok _ (getElem_mem h)
   rw [if_pos (by omega),z0j h,z0j h',ynq N0 (by decide) _ _ hk.2 (hokB _ (getElem_mem h')) hk.1,z04,drop_eq_getElem_cons h,drop_eq_getElem_cons h',z1o k (by omega)]
   have ih:=y6i hl hA hok hokB m (k+1) (by omega) (by omega)
   rw [z0y,z0c]
   by_cases e:A[k]=B[k]
   ·have q:(A[k]::A.drop (k+1)=B[k]::B.drop (k+1)) ↔ A.drop (k+1)=B.drop (k+1):=⟨fun h=>(List.cons.inj h).2,fun h=>by rw [e,h]⟩
    simp_all
   ·have q:¬(A[k]::A.drop (k+1)=B[k]::B.drop (k+1)):=fun h=>e (List.cons.inj h).1
    rw [if_neg e,decide_eq_false q]
  grind
theorem yqb (hA:A.length<=1000000)(hok:∀ x∈A,x.length<=1000000/\∀ c∈x,cfOk c=true):zc4 N0 ⟨A⟩ ⟨A⟩=some true:=by
 unfold zc4
 simp only [length_map,z0y,z0c]
 rw [if_pos trivial]
 have:=y6i (A:=A) (B:=A) rfl hA hok (fun x hx=>(hok x hx).2) N0 0 (Nat.zero_le _) (by unfold N0;omega)
 simpa using this
theorem ygd (h:GS a l)(hS:zku a l S):∀ x∈S,x.length<=1000000/\∀ c∈x,cfOk c=true:=fun x hx=>by
 obtain ⟨i,hi,rfl⟩:=mem_iff_getElem.1 hx
 have h1:=hS.few i hi
 have h2:=hS.ln
 have h3:=h.len
 exact ⟨by omega,fun c hc=>(hS.gd i hi c hc).ok h (by omega)⟩
theorem yil (hw:WfA a)(l:List Ev):∃ g:Bool,zcb N0 a l=some g/\(g=true->GS a l):=by
 obtain ⟨b,b1,b2⟩:=ygz a hw l
 unfold zcb
 simp only [z2k,z1d,z61]
 rw [b1,z04]
 cases b with
 |false=>exact ⟨false,z6e _ _,fun h=>by cases h⟩
 |true =>
  obtain ⟨hf,hl,q,hb,hs⟩:=b2 rfl
  have e:z2q N0 a l=z6q N0 a l:=by unfold z2q z6q;rfl
  rw [z6c,<-e,hb,z04]
  refine ⟨_,rfl,fun hq=>GS.of hw b1 ?_⟩
  simp_all
end Go.Proofs.YtidhlpjgifoneaaGreat
