/- Layer 25, plainly. -/
import Derived.Test.YtidhlpjgifoneaaGreatK32
set_option linter.unusedVariables false
set_option linter.unusedSimpArgs false
namespace Go.Proofs.YtidhlpjgifoneaaGreat
open Go.RowKit List
abbrev cf0:Cf:=⟨0,[],[]⟩
def hasI (l:List Int)(n:Int):Bool:=l.any fun y=>decide (n=y)
theorem ydw (n:Nat)(s:Int)(l:List Int)(b:l.length<=1100000):∀ (m k:Nat),k<=l.length->l.length<m+k->z92 n s l (some false) m (k:Int)=some (hasI (l.drop k) s)
 |0,k,h1,c=>by omega
 |m+1,k,h1,c=>by
  unfold z92;simp only [length_map,z0f];by_cases h:k<l.length
  ·rw [if_pos (by omega),z0r h,z0e l k h,z27 k (by omega),ydw n s l b m (k+1) (by omega) (by omega)];unfold hasI;grind
  ·rw [if_neg (by omega),drop_eq_nil_of_le (by omega)];rfl
theorem yrz (n:Nat)(s:Int)(l:List Int)(b:l.length<=1100000)(c:l.length<n):zdc n l s=some (hasI l s):=by
 have:=ydw n s l b n 0 (by omega) (by omega);unfold zdc;simp_all
def zyl (a:Aut)(s:Int):List Gd:=match a.fStates[s.toNat]? with|some s=>s.fGuards|none=>[]
def chE (x:Ed):List Exn:=x.fChecks.filterMap z1l
variable {x:Ed}
theorem yjn {ys:List Exn}(h:x.fChecks=ys.map z0n):chE x=ys:=by
 unfold chE;rw [h,filterMap_map];have:(z1l ∘ z0n)=some:=by funext y;exact zfb y
 rw [this,filterMap_some]
def ckP (x:Ed)(env:List (List Ev)):Bool:=(chE x).all (fun y=>trR env y (-1) ev0)
def gdP (a:Aut)(c:Cf)(x:Ed)(env:List (List Ev))(e:Ev):Bool:=(zyl a c.fState).any (fun g=>!hasI x.fInside g.fScope && vio env e g)
def stN (c:Cf)(x:Ed)(e:Ev):List Sta:=opL c.fStarts x.fOpens e.fTime
def bdN (c:Cf)(x:Ed)(e:Ev):List Bd:=c.fBindings++[⟨x.fVar,ze0 e⟩]
def coP (a:Aut)(held:List Ev)(c:Cf)(x:Ed)(e:Ev):Option Cf :=
 if x.fType=e.fType/\gdP a c x (enH held c.fBindings) e=false/\trR (enH held c.fBindings) x.fCond x.fVar e=true/\x.fLimits.all (keP (stN c x e) e.fTime)=true/\ckP x (enH (e::held) (bdN c x e))=true then some ⟨x.fTo,bdN c x e,(stN c x e).filter (ncl x)⟩ else none
def rfC:Option Cf->Cf×Bool |some c=>(c,true) |none=>(cf0,false)
structure CB (held:List Ev) (a:Aut) (k:Nat) (c:Cf):Prop where
 st:0<=c.fState/\c.fState<a.fStates.length
 bd:BdOk held a.fVars c.fBindings
 ss:SS c.fStarts
 lb:c.fBindings.length<=k
 ls:c.fStarts.length<=100*k
structure CxA (a:Aut) (held:List Ev):Prop where
 wf:WfA a
 ok:AOk a
 lo:∀ x∈a.fEdges,x.fOpens.length<=100
 lh:held.length<=10000
variable {a:Aut}
theorem zvn {s:Int}(h:0<=s/\s<a.fStates.length):∃ b:Stt,a.fStates[s.toNat]? = some b/\b∈a.fStates/\zyl a s=b.fGuards:=by
 have:s.toNat<a.fStates.length:=by omega
 refine ⟨a.fStates[s.toNat],getElem?_eq_getElem this,getElem_mem this,?_⟩;unfold zyl;rw [getElem?_eq_getElem this]
variable {β:Type}
theorem zyk {α:Type}{l:List α}{n:Int}{x:α}(b:0<=n)(h:l[n.toNat]? = some x)(k:α->Option β):idx l n k=k x:=by
 unfold idx;rw [if_pos b,h]
variable {k:Nat}
theorem yc1 {ys:List Exn}(h:x.fChecks=ys.map z0n)(b:k<ys.length)(Q:Exn->Option β):idxD z1l x.fChecks (k:Int) Q=Q ys[k]:=by
 unfold idxD;rw [if_pos (by omega),h];simp [b,zfb]
theorem y81 (e:Ev)(x:Ed)(c:Cf)(held:List Ev)(env:List (List Ev))(f:EvS env)(b:Stt)(i:b.fGuards.length<=1100000)(d:∀ g∈b.fGuards,WfE g.fCond)(hi:x.fInside.length<=1100000)(K:List (List Ev)->Option (Cf×Bool)):∀ (m k:Nat),k<=b.fGuards.length->b.fGuards.length<m+k->z2g N0 e x c held ⟨env⟩ b K m (k:Int)=if (b.fGuards.drop k).any (fun g=>!hasI x.fInside g.fScope && vio env e g)=true then some (cf0,false) else K env
 |0,k,h1,j=>by omega
 |m+1,k,h1,j=>by
  unfold z2g;simp only [length_map,z0f,z3g,z1s,z3h];by_cases h:k<b.fGuards.length
  ·rw [if_pos (by omega),z0r h,z0e _ k h,any_cons,yrz N0 _ _ hi (by unfold N0;omega),z05,z27 k (by omega),y81 e x c held env f b i d hi K m (k+1) (by omega) (by omega),z0r h,yhu f (d _ (getElem_mem h)),z05];cases hasI x.fInside b.fGuards[k].fScope with
   |true=>simp [zae]
   |false =>
    simp only [Bool.not_false,z9u,Bool.true_and];cases vio env e b.fGuards[k]<;>simp [z9u,zae]
  grind
theorem y80 (e:Ev)(x:Ed)(c:Cf)(held:List Ev)(g:x.fOpens.length<=1100000)(K:List Sta->Option (Cf×Bool)):∀ (m k:Nat) (b:List Sta),k<=x.fOpens.length->x.fOpens.length<m+k->SS b->b.length+(x.fOpens.length-k)<=1100000->z5e N0 e x c held K m ((k:Int),b)=K ((x.fOpens.drop k).foldl (fun l s=>opS l s e.fTime) b)
 |0,k,b,h1,j,d,i=>by omega
 |m+1,k,b,h1,j,d,i=>by
  unfold z5e;simp only [length_map,z0f];by_cases h:k<x.fOpens.length
  ·have f:=ybu b x.fOpens[k] e.fTime;rw [if_pos (by omega),z0r h,z0e _ k h,foldl_cons,yhx N0 _ _ b d (by omega) (by unfold N0;omega),z05,z27 k (by omega)];exact y80 e x c held g K m (k+1) _ (by omega) (by omega) (yig d _ _) (by omega)
  grind
theorem y7z (e:Ev)(x:Ed)(c:Cf)(held:List Ev)(d:x.fLimits.length<=1100000)(s:List Sta)(b:s.length<=1100000)(K:Option (Cf×Bool)):∀ (m k:Nat),k<=x.fLimits.length->x.fLimits.length<m+k->z5d N0 e x c held s K m (k:Int)=if (x.fLimits.drop k).all (keP s e.fTime)=true then K else some (cf0,false)
 |0,k,h1,f=>by omega
 |m+1,k,h1,f=>by
  unfold z5d;simp only [length_map,z0f,z12];by_cases h:k<x.fLimits.length
  ·rw [if_pos (by omega),z0r h,z0e _ k h,all_cons,yqc N0 _ _ s b (by unfold N0;omega),z05,z27 k (by omega),y7z e x c held d s b K m (k+1) (by omega) (by omega)];cases keP s e.fTime x.fLimits[k]<;>simp [z9u,zae]
  grind
theorem y7y (x:Ed)(s:List Sta)(bs:List Bd)(env:List (List Ev))(e:EvS env)(ys:List Exn)(b:x.fChecks=ys.map z0n)(d:∀ y∈ys,WfE y)(f:ys.length<=1100000)(K:List Bd->Option (Cf×Bool)):∀ (m k:Nat),k<=ys.length->ys.length<m+k->z5c N0 x s bs ⟨env⟩ K m (k:Int)=if (ys.drop k).all (fun y=>trR env y (-1) ev0)=true then K bs else some (cf0,false)
 |0,k,h1,g=>by omega
 |m+1,k,h1,g=>by
  unfold z5c;have c:x.fChecks.length=ys.length:=by rw [b,length_map]
  simp only [length_map,z0f,z12,c];by_cases h:k<ys.length
  ·rw [if_pos (by omega),yc1 b h,z0e _ k h,all_cons,(yfh (fun v=>rfl:EvEq env env) e (d _ (getElem_mem h)) (-1) ev0).1,z05,z27 k (by omega),y7y x s bs env e ys b d f K m (k+1) (by omega) (by omega)];cases trR env ys[k] (-1) ev0<;>simp [z9u,zae]
  grind
theorem y7x (x:Ed)(bs:List Bd)(e:x.fCloses.length<=1100000)(K:List Sta->Option (Cf×Bool)):∀ (m k:Nat) (b:List Sta),k<=x.fCloses.length->x.fCloses.length<m+k->b.length<=1100000->z5b N0 x bs K m ((k:Int),b)=K ((x.fCloses.drop k).foldl clS b)
 |0,k,b,h1,f,c=>by omega
 |m+1,k,b,h1,f,c=>by
  unfold z5b;simp only [length_map,z0f];by_cases h:k<x.fCloses.length
  ·have d:=yjk b x.fCloses[k];rw [if_pos (by omega),z0r h,z0e _ k h,foldl_cons,ye2 N0 _ b c (by unfold N0;omega),z05,z27 k (by omega)];exact y7x x bs e K m (k+1) _ (by omega) (by omega) (by omega)
  grind
variable {held:List Ev}
theorem yg0 (b:CxA a held){c:Cf}(V:k<=1000)(o:CB held a k c)(i:x∈a.fEdges)(e:Ev):z5n N0 a held c x e=some (rfC (coP a held c x e)):=by
 have M:=o.lb;have I:=o.ls;have J:=b.lo x i;have L:=b.lh;have wx:=b.wf.ed x i;have N:=y4f e.fTime x.fOpens c.fStarts;obtain ⟨f,R,C,Q⟩:=zvn o.st;obtain ⟨ys,w,t⟩:=wx.checks;have u:ys.length<=1100000:=by have:=wx.lc;rw [w,length_map] at this;exact this
 have n:EvS (enH held c.fBindings):=zwx (by omega);have m:EvS (enH (e::held) (bdN c x e)):=zwx (by unfold bdN;simp;omega);unfold z5n;rw [yi0 N0 (by decide) held (by omega) c (by omega),z05,zyk o.st.1 R];have H:=y81 e x c held (enH held c.fBindings) n f (b.wf.st f C).1 (b.wf.st f C).2 wx.li (fun k1_0_0y=>jon (z1b N0 e x c held) <| reg <| cnd (!decide (x.fType=e.fType)) (z1b N0 e x c held true) <| bnd (z2w N0 x.fCond (⟨k1_0_0y⟩:z0h) x.fVar e) fun d=>z1b N0 e x c held !(d)) N0 0 (Nat.zero_le _) (by have:=(b.wf.st f C).1;unfold N0;omega);refine H.trans ?_;rw [drop_zero];have z:gdP a c x (enH held c.fBindings) e=f.fGuards.any (fun g=>!hasI x.fInside g.fScope && vio (enH held c.fBindings) e g):=by unfold gdP;rw [Q]
 rw [<-z];unfold coP;by_cases q:gdP a c x (enH held c.fBindings) e=true
 ·rw [if_pos q,if_neg (by rw [q];simp)];rfl
 have r:gdP a c x (enH held c.fBindings) e=false:=by simpa using q
 rw [if_neg q];simp only [z3g,z1s,z12,z0f];have j3t:z1b N0 e x c held true=some (cf0,false):=by unfold z1b;rw [z9u]
 by_cases p:x.fType=e.fType;rotate_left
 ·rw [if_neg p,j3t,if_neg (fun h=>p h.1)];rfl
 rw [if_pos p,(yfh (fun v=>rfl:EvEq (enH held c.fBindings) (enH held c.fBindings)) n wx.cond x.fVar e).1,z05];cases U:trR (enH held c.fBindings) x.fCond x.fVar e with
 |false =>
  simp only [Bool.not_false,j3t];rw [if_neg (by simp)];rfl
 |true =>
  simp only [Bool.not_true];unfold z1b;rw [zae];have j:(stN c x e).length<=1100000:=by unfold stN;omega
  have G:=fun K=>y80 e x c held wx.lo K N0 0 c.fStarts (Nat.zero_le _) (by have:=wx.lo;unfold N0;omega) o.ss (by omega)
  refine (G _).trans ?_;rw [drop_zero];have A:x.fOpens.foldl (fun l s=>opS l s e.fTime) c.fStarts=stN c x e:=rfl;rw [A];have F:=fun K=>y7z e x c held wx.ll (stN c x e) j K N0 0 (Nat.zero_le _) (by have:=wx.ll;unfold N0;omega)
  refine (F _).trans ?_;rw [drop_zero];cases T:x.fLimits.all (keP (stN c x e) e.fTime) with
  |false =>
   rw [if_neg (by simp),if_neg (by simp)];rfl
  |true =>
   rw [if_pos rfl,zcu (by simp;omega) (by omega),yo0,z05];unfold bldS;simp only [];rw [zcu (by grind) (by omega),ymz,z1s];unfold bld;simp only [];rw [zcu (by grind) (by omega)];have P:([]++c.fBindings++[⟨x.fVar,⟨e.fTime,e.fSource,e.fSeq⟩⟩]:List Bd)=bdN c x e:=rfl;have O:([e]++held:List Ev)=e::held:=rfl;rw [P,O,yi0 N0 (by decide) (e::held) (by simp;omega) _ (by unfold bdN;simp;omega),z05];have E:=fun K=>y7y x (stN c x e) (bdN c x e) (enH (e::held) (bdN c x e)) m ys w t u K N0 0 (Nat.zero_le _) (by unfold N0;omega)
   refine (E _).trans ?_;have B:ckP x (enH (e::held) (bdN c x e))=ys.all (fun y=>trR (enH (e::held) (bdN c x e)) y (-1) ev0):=by unfold ckP;rw [yjn w]
   rw [drop_zero,<-B];cases S:ckP x (enH (e::held) (bdN c x e)) with
   |false =>
    rw [if_neg (by simp),if_neg (by simp)];rfl
   |true =>
    rw [if_pos rfl,if_pos ⟨p,r,by simp⟩];have D:=fun K=>y7x x (bdN c x e) wx.lcl K N0 0 (stN c x e) (Nat.zero_le _) (by have:=wx.lcl;unfold N0;omega) j
    refine (D _).trans ?_;rw [drop_zero,yr9];rfl
theorem ylf {e:Ev}(c:∀ y∈held,ze0 y=ze0 e->y=e){r:Rf}(h:(lkH held r).isSome=true):lkH (e::held) r=lkH held r:=by
 obtain ⟨y,b⟩:=Option.isSome_iff_exists.1 h;obtain ⟨h1,d⟩:=ybx b;have:lkH (e::held) r=if ze0 e=r then some e else lkH held r:=by
  unfold lkH;rw [find?_cons];grind
 grind
theorem yp6 (vs:List (List Ev))(i:Nat)(hi:i<vs.length)(q:List Ev)(v:Int):evs (vs.set i q) v=if v=(i:Int) then q else evs vs v:=by
 unfold evs;grind
variable {v:Int}
theorem ylt (m:AOk a){e:Ev}(f:∀ y∈held,ze0 y=ze0 e->y=e){l:List Bd}(i:BdOk held a.fVars l)(n:0<=v/\v<a.fVars):EvEq (enH (e::held) (l++[⟨v,ze0 e⟩])) ((bndV held a.fVars.toNat l).set v.toNat ((bndV held a.fVars.toNat l).getD v.toNat []++[e])):=fun w=>by
 have d:=m.vars;have c:v.toNat<(bndV held a.fVars.toNat l).length:=by rw [zpq];omega
 have j:(bndV held a.fVars.toNat l).getD v.toNat []=ev1 held l v:=by
  have:=ztd held a.fVars.toNat l v;unfold evs at this;rw [if_neg (by omega),zpq,if_neg (by omega),if_pos (by omega)] at this;exact this
 have h1:ev1 (e::held) (l++[⟨v,ze0 e⟩]) w=ev1 held l w++(if v=w then [e] else []):=by
  unfold ev1;rw [filterMap_append];congr 1
  ·have:∀ b∈l,(if b.fVar=w then lkH (e::held) b.fRef else none)=(if b.fVar=w then lkH held b.fRef else none):=fun b g=>by rw [ylf f (i b g).2]
   clear j
   induction l with
   |nil=>rfl
   |cons b l ih =>
    rw [filterMap_cons,filterMap_cons,this b (by simp),ih (fun b h=>i b (mem_cons_of_mem _ h)) (by simpa [zpq] using c) (fun b h=>this b (mem_cons_of_mem _ h))]
  ·have:lkH (e::held) (ze0 e)=some e:=by unfold lkH;rw [find?_cons];simp
   grind
 rw [yp6 _ _ c,ztd,h1,j];by_cases q:v=w
 ·grind
 ·rw [if_neg q,append_nil,if_neg (show ¬w=((v.toNat:Nat):Int) by omega)];have:=yj9 ⟨d.1,d.2⟩ i w;rw [ztd] at this;exact this
theorem yoc {a b:List (List Ev)}(c:EvEq a b)(f:EvS a){g:Gd}(d:WfE g.fCond)(x:Ed)(hi:x.fInside.length<=1100000)(e:Ev):z3s N0 g x ⟨b⟩ e=some (!hasI x.fInside g.fScope && vio a e g):=by
 unfold z3s;simp only [z3g,z1s,z3k];rw [zt8 N0 _ _ (by omega) (by unfold N0;omega),z05,z12];have:(x.fInside.any fun y=>decide (g.fScope=y))=hasI x.fInside g.fScope:=rfl;rw [this,ymi c f d e,z05];cases hasI x.fInside g.fScope<;>simp [z9u,zae]
theorem ye1 (e:Ev)(x:Ed)(c:Cf)(s:List Sta)(a b:List (List Ev))(d:EvEq a b)(j:EvS a)(ys:List Exn)(f:x.fChecks=ys.map z0n)(i:∀ y∈ys,WfE y)(n:ys.length<=1100000)(K:List Sta->Option (Cf×Bool)):∀ (m k:Nat),k<=ys.length->ys.length<m+k->z7x N0 e x c s b K m (k:Int)=if (ys.drop k).all (fun y=>trR a y (-1) ev0)=true then K s else some (cf0,false)
 |0,k,h1,o=>by omega
 |m+1,k,h1,o=>by
  unfold z7x;have g:x.fChecks.length=ys.length:=by rw [f,length_map]
  simp only [length_map,z0f,z12,g];by_cases h:k<ys.length
  ·rw [if_pos (by omega),yc1 f h,z0e _ k h,all_cons,(yfh d j (i _ (getElem_mem h)) (-1) ev0).2,z05,z27 k (by omega),ye1 e x c s a b d j ys f i n K m (k+1) (by omega) (by omega)];cases trR a ys[k] (-1) ev0<;>simp [z9u,zae]
  grind
theorem y8j {r:z0l}(b:CxA r.fa held){c:Cf}(Y:k<=1000)(j:CB held r.fa k c)(f:x∈r.fa.fEdges){e:Ev}(G:∀ y∈held,ze0 y=ze0 e->y=e):za8 N0 r c x ⟨bndV held r.fa.fVars.toNat c.fBindings⟩ e=some (rfC (coP r.fa held c x e)):=by
 have P:=j.lb;have M:=j.ls;have N:=b.lo x f;have O:=b.lh;have p:=b.ok.vars;have wx:=b.wf.ed x f;have xv:=(b.ok.ed x f).var;have Q:=y4f e.fTime x.fOpens c.fStarts;obtain ⟨n,T,I,S⟩:=zvn j.st;obtain ⟨ys,A,w⟩:=wx.checks;have z:ys.length<=1100000:=by have:=wx.lc;rw [A,length_map] at this;exact this
 have i:EvS (enH held c.fBindings):=zwx (by omega);have s:EvS (enH (e::held) (bdN c x e)):=zwx (by unfold bdN;simp;omega);have m:=yj9 ⟨p.1,p.2⟩ j.bd;have j1t:z1x N0 e ⟨bndV held r.fa.fVars.toNat c.fBindings⟩ x c true=some (cf0,false):=by unfold z1x;rw [z9u]
 unfold za8;simp only [z3g,z1s,z12,z0f];unfold coP;by_cases t:x.fType=e.fType;rotate_left
 ·rw [if_neg (fun h=>t h.symm),j1t,if_neg (fun h=>t h.1)];rfl
 rw [if_pos t.symm,zyk j.st.1 T];rw [ybn N0 x ⟨bndV held r.fa.fVars.toNat c.fBindings⟩ e (fun g=>!hasI x.fInside g.fScope && vio (enH held c.fBindings) e g) n.fGuards (by have:=(b.wf.st n I).1;omega) (by have:=(b.wf.st n I).1;unfold N0;omega) (fun g R=>yoc m i ((b.wf.st n I).2 g R) x wx.li e),z05];have C:gdP r.fa c x (enH held c.fBindings) e=n.fGuards.any (fun g=>!hasI x.fInside g.fScope && vio (enH held c.fBindings) e g):=by unfold gdP;rw [S]
 rw [<-C];cases X:gdP r.fa c x (enH held c.fBindings) e with
 |true =>
  rw [z9u,j1t,if_neg (by simp)];rfl
 |false =>
 rw [zae,(yfh m i wx.cond x.fVar e).2,z05];cases W:trR (enH held c.fBindings) x.fCond x.fVar e with
 |false =>
  simp only [Bool.not_false,j1t];rw [if_neg (by simp)];rfl
 |true =>
  simp only [Bool.not_true];unfold z1x;have q:(stN c x e).length<=1100000:=by unfold stN;omega
  rw [zae,yl3 N0 e.fTime x.fOpens c.fStarts j.ss (by omega) (by decide),zo8];have D:opL c.fStarts x.fOpens e.fTime=stN c x e:=rfl;rw [D,yl4 N0 e.fTime (stN c x e) q (by decide) x.fLimits wx.ll,z05,z12];cases V:x.fLimits.all (keP (stN c x e) e.fTime) with
  |false =>
   rw [zae,if_neg (by simp)];rfl
  |true =>
   have d:x.fVar.toNat<(bndV held r.fa.fVars.toNat c.fBindings).length:=by rw [zpq];omega
   have L:((bndV held r.fa.fVars.toNat c.fBindings).getD x.fVar.toNat []).length<=1000000:=by
    have h1:=m x.fVar;have u:=i x.fVar;rw [h1] at u;unfold evs at u;rw [if_neg (by omega),zpq,if_neg (by omega)] at u;exact u
   have H:=zpq held r.fa.fVars.toNat c.fBindings;have o:(bndV held r.fa.fVars.toNat c.fBindings)[x.fVar.toNat]=(bndV held r.fa.fVars.toNat c.fBindings).getD x.fVar.toNat []:=by
    simp [getD_eq_getElem?_getD,d]
   unfold zct;rw [z9u,if_pos (by rw [H];omega),zo8,you xv.1 d,o,if_pos (by omega),zo8,zcu (by grind) (by omega),length_map,ybv xv.1 d,zxe d];have E:=ylt b.ok G j.bd xv;have J:=fun K=>ye1 e x c (stN c x e) (enH (e::held) (bdN c x e)) _ E s ys A w z K N0 0 (Nat.zero_le _) (by unfold N0;omega)
   refine (J _).trans ?_;have F:ckP x (enH (e::held) (bdN c x e))=ys.all (fun y=>trR (enH (e::held) (bdN c x e)) y (-1) ev0):=by unfold ckP;rw [yjn A]
   rw [drop_zero,<-F];cases U:ckP x (enH (e::held) (bdN c x e)) with
   |false =>
    rw [if_neg (by simp),if_neg (by simp)];rfl
   |true =>
    rw [if_pos rfl,yl7 N0 x wx.lcl (by decide) _ q,zbr,if_pos (by omega),zo8];have B:zje N0 e=some ⟨e.fTime,e.fSource,e.fSeq⟩:=rfl;rw [B,z05,zcu (by grind) (by omega),if_pos (by simp [t])];rfl
abbrev Mp:=List (Int×Bool)
def ixs (k n:Nat):List (Option Nat):=(range k).map some++replicate (n-k) none
section
variable {β:Type}
end
structure y6e (l:Mp):Prop where
 srt:Srt l
 all:∀ p∈l,p.2=true/\0<=p.1/\p.1<16
def has (l:Mp)(v:Int):Prop:=v∈l.map (·.1)
variable {l:Mp}
theorem ykn {k:Int}{v:Bool}:∀ p,p∈sput l k v->p=(k,v)\/p∈l:=by
 induction l with
 |nil=>intro p c;simpa [sput] using c
 |cons q r ih =>
  obtain ⟨a,b⟩:=q;intro p c;simp only [sput] at c;grind
theorem y6e.put (h:y6e l)(b:0<=v/\v<16):y6e (sput l v true) :=
 ⟨ydb h.srt,fun p c=>(ykn p c).elim (fun e=>by rw [e];exact ⟨rfl,b⟩) (h.all p)⟩
theorem yc2 {x:Int}:has (sput l v true) x ↔ x=v\/has l x:=ydc x
structure OsOk (k:Nat) (os:List Mp):Prop where
 len:os.length=k
 map:∀ l∈os,y6e l
def hasO (os:List Mp)(s:Nat)(v:Int):Prop:=∃ l,os[s]? = some l/\has l v
variable {os:List Mp}
theorem OsOk.at (h:OsOk k os){s:Nat}(c:s<k):∃ l,os[s]? = some l/\y6e l:=by
 have b:s<os.length:=by rw [h.len];exact c
 exact ⟨os[s],getElem?_eq_getElem b,h.map _ (getElem_mem b)⟩
theorem OsOk.put (h:OsOk k os){s:Nat}(d:os[s]? = some l)(i:0<=v/\v<16):OsOk k (os.set s (sput l v true))/\∀ t x,hasO (os.set s (sput l v true)) t x ↔ hasO os t x\/(t=s/\x=v):=by
 obtain ⟨g,j⟩:=List.getElem?_eq_some_iff.1 d;have hm:y6e l:=by rw [<-j];exact h.map _ (getElem_mem g)
 refine ⟨⟨by rw [length_set];exact h.len,fun q b=>?_⟩,fun t x=>?_⟩
 ·rcases mem_or_eq_of_mem_set b with f|f
  ·exact h.map q f
  ·rw [f];exact hm.put i
 ·unfold hasO;rw [getElem?_set];by_cases e:s=t
  ·subst e;rw [if_pos rfl,if_pos g];constructor
   ·rintro ⟨q,b,c⟩;injection b with b
    subst b;exact (yc2.1 c).elim (fun e=>Or.inr ⟨rfl,e⟩) (fun c=>Or.inl ⟨l,d,c⟩)
   ·rintro (⟨q,b,c⟩|⟨_,e⟩)
    ·rw [d] at b;injection b with b;subst b
     exact ⟨_,rfl,yc2.2 (Or.inr c)⟩
    ·exact ⟨_,rfl,yc2.2 (Or.inl e)⟩
  grind
def OccV (v:Int)(e:Exn):Prop:=∃ i:Nat,i<16/\v=(i:Int)/\Occ i e
theorem yqw {es:List Exn}(h:k<es.length)(K:Exn->Option β):idxD z1l (es.map z0n) (k:Int) K=K es[k]:=by
 unfold idxD;rw [if_pos (by omega)];simp only [Int.toNat_natCast,getElem?_map,getElem?_eq_getElem h,Option.map_some,zfb]
def OwnG (a:Aut)(t:Nat)(x:Int):Prop:=∃ b,a.fStates[t]? = some b/\∃ g∈b.fGuards,OccV x g.fCond
def OwnX (ed:Ed)(x:Int):Prop:=∃ e∈chE ed++[ed.fCond],OccV x e
def OwnV (a:Aut)(t:Nat)(x:Int):Prop:=OwnG a t x\/∃ ed∈a.fEdges,ed.fFrom=(t:Int)/\OwnX ed x
inductive Rd (a:Aut):Nat->Int->Prop
 |own (t:Nat) (x:Int) (h:OwnV a t x):Rd a t x
 |step (ed:Ed) (he:ed∈a.fEdges) (t s:Nat) (x:Int) (ht:ed.fFrom=(t:Int)) (hs:ed.fTo=(s:Int)) (h:Rd a s x):Rd a t x
theorem y32 {x:Int}{e:Exn}(h:OccV x e):0<=x/\x<16:=by obtain ⟨i,hi,e,_⟩:=h;omega
theorem yg7 {t:Nat}{x:Int}(h:OwnV a t x):0<=x/\x<16:=by
 rcases h with ⟨_,_,_,_,h⟩|⟨_,_,_,_,_,h⟩<;>exact y32 h
theorem ykq {t:Nat}{x:Int}(h:Rd a t x):0<=x/\x<16:=by
 induction h with
 |own t x h=>exact yg7 h
 |step _ _ _ _ _ _ _ _ ih=>exact ih
theorem yip:y6e []:=⟨by simp [Srt],by simp⟩
theorem OsOk.push (h:OsOk k os):OsOk (k+1) (os++[[]]):=⟨by rw [length_append,h.len];rfl,fun l b=>(mem_append.1 b).elim (h.map l) (fun b=>by rw [mem_singleton.1 b];exact yip)⟩
theorem yh0 (h:WfX x):x.fChecks=(chE x).map z0n/\(∀ e∈chE x,WfE e):=by
 obtain ⟨ys,b,c⟩:=h.checks;rw [yjn b];exact ⟨b,c⟩
open Classical in
theorem y92 {α:Type}{p q:α->Bool}:∀ {l:List α},(∀ x∈l,q x=true->p x=true)->(∃ x∈l,p x=true/\q x=false)->l.countP q<l.countP p
 |[],_,h=>by simp_all
 |y::r,h1,c=>by
  have hm:r.countP q<=r.countP p:=countP_mono_left (fun x b=>h1 x (mem_cons_of_mem _ b));obtain ⟨x,b,px,qx⟩:=c;rw [countP_cons,countP_cons];rcases mem_cons.1 b with e|e
  ·grind
  ·have d:=y92 (l:=r) (fun x b=>h1 x (mem_cons_of_mem _ b)) ⟨x,e,px,qx⟩;grind
inductive Bk (bk:List (List Int)):Nat->Nat->Prop
 |refl (s:Nat):Bk bk s s
 |step (t y s:Nat) (h:(y:Int)∈bk.getD s []) (ht:Bk bk t y):Bk bk t s
structure BkOk (n:Nat) (bk:List (List Int)):Prop where
 len:bk.length=n
 big:∀ q∈bk,q.length<=1100000
 mem:∀ q∈bk,∀ y∈q,0<=y/\y<(n:Int)
structure Sp (n:Nat) (bk:List (List Int)) (v:Int) (os:List Mp) (ss:Nat->Prop) (os':List Mp):Prop where
 ok:OsOk n os'
 mono:∀ t x,hasO os t x->hasO os' t x
 snd:∀ t x,hasO os' t x->hasO os t x\/(x=v/\∃ s,ss s/\Bk bk t s)
 mark:∀ s,ss s->hasO os' s v
 clo:∀ t,hasO os' t v->hasO os t v\/∀ y:Nat,(y:Int)∈bk.getD t []->hasO os' y v
section
variable {β α:Type}
end
structure Mk (a:Aut) (bk:List (List Int)) (os:List Mp):Prop where
 ok:OsOk a.fStates.length os
 snd:∀ t x,hasO os t x->Rd a t x
 clo:∀ t x,hasO os t x->∀ y:Nat,(y:Int)∈bk.getD t []->hasO os y x
structure BkA (a:Aut) (bk:List (List Int)):Prop where
 ok:BkOk a.fStates.length bk
 mem:∀ (t y:Nat),t<a.fStates.length->((y:Int)∈bk.getD t [] ↔ ∃ ed∈a.fEdges,ed.fTo=(t:Int)/\ed.fFrom=(y:Int))
open Classical in
noncomputable def ygm (a:Aut):List Mp:=(range a.fStates.length).map fun t=>((range 16).filter (fun i:Nat=>decide (Rd a t (i:Int)))).map (fun i:Nat=>((i:Int),true))
open Classical in
theorem ym8 (a:Aut):OsOk a.fStates.length (ygm a)/\∀ t x,hasO (ygm a) t x ↔ t<a.fStates.length/\Rd a t x:=by
 unfold ygm;refine ⟨⟨by simp,fun l c=>?_⟩,fun t x=>?_⟩
 ·obtain ⟨t,_,rfl⟩:=mem_map.1 c;refine ⟨?_,fun p e=>?_⟩
  ·unfold Srt;rw [map_map,pairwise_map];refine Pairwise.imp (fun {a b} (h:a<b)=>?_) (pairwise_lt_range.filter _);simp_all
  grind
 ·unfold hasO has;constructor
  ·grind
  ·rintro ⟨h1,d⟩;refine ⟨_,by rw [getElem?_map,getElem?_range h1];rfl,?_⟩;rw [map_map];have f:=ykq d;refine mem_map.2 ⟨x.toNat,mem_filter.2 ⟨mem_range.2 (by omega),?_⟩,?_⟩;all_goals grind
theorem y6e.len (h:y6e l):l.length<=16:=by
 have s:Str cmpI (l.map (·.1)):=h.srt.imp (fun q=>(y5z _ _).2 q);have key:∀ (q:List Int) (c:Int),q.Pairwise (· < ·)->(∀ x∈q,c<=x/\x<16)->(q.length:Int)<=max 0 (16-c):=fun q=>by
  induction q with
  |nil=>intro c _ _;simp;omega
  |cons y r f =>
   intro c b g;have h1:=g y (by simp);obtain ⟨i,e⟩:=pairwise_cons.1 b;have:=f (y+1) e (fun x d=>by grind);grind
 have:=key (l.map (·.1)) 0 (show (l.map (·.1)).Pairwise (· < ·) from h.srt) (fun x d=>by
  obtain ⟨p,b,rfl⟩:=mem_map.1 d;exact (h.all p b).2)
 grind
def cvS (x y:Sta):Bool:=decide (x.fScope=y.fScope) && decide (y.fTime<=x.fTime)
def cvL:List Sta->List Sta->Bool |[],[]=>true |x::r,y::s=>cvS x y && cvL r s |_,_=>false
def rdB (m:Mp)(l:List Bd):List Bd:=l.filter (fun b=>(mlk m b.fVar).getD false)
def rdC (R:List Mp)(c:Cf):List Bd:=rdB (R.getD c.fState.toNat []) c.fBindings
def cov (R:List Mp)(c d:Cf):Bool:=decide (c.fState=d.fState) && (cvL c.fStarts d.fStarts && decide (rdC R c=rdC R d))
structure CS (R:List Mp) (c:Cf):Prop where
 st:0<=c.fState/\c.fState<(R.length:Int)
 lb:c.fBindings.length<=1000000
 ls:c.fStarts.length<=1000000
theorem yey:∀ l:List Sta,cvL l l=true
 |[]=>rfl
 |x::r=>by unfold cvL cvS;simp [yey r]
theorem ylu (R:List Mp)(c:Cf):cov R c c=true:=by unfold cov;simp [yey]
def cfD:Cf:=⟨0,[],[]⟩
def bet (R:List Mp)(l:List Cf)(k i:Nat):Bool:=decide (k≠i) && (cov R (l.getD k cfD) (l.getD i cfD) && (decide (k<i) || !cov R (l.getD i cfD) (l.getD k cfD)))
def ys2 (R:List Mp)(l:List Cf)(i:Nat):Bool:=!(range l.length).any (fun k=>bet R l k i)
def redI (R:List Mp)(l:List Cf):List Nat:=(range l.length).filter (ys2 R l)
def redP (R:List Mp)(l:List Cf):List Cf:=(redI R l).map (fun i=>l.getD i cfD)
theorem ydj (R:List Mp)(l:List Cf):(redP R l).Sublist l:=by
 have h:((range l.length).map (fun i=>l.getD i cfD))=l:=by
  apply ext_getElem
  ·simp
  ·simp_all
 unfold redP redI;conv=>rhs;rw [<-h]
 exact filter_sublist.map _
end Go.Proofs.YtidhlpjgifoneaaGreat
