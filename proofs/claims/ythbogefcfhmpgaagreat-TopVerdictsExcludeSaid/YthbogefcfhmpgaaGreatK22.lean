/- Layer 25, plainly. -/
import Derived.Test.YthbogefcfhmpgaaGreatK21
set_option linter.unusedVariables false
set_option linter.unusedSimpArgs false
namespace Go.Proofs.YthbogefcfhmpgaaGreat
open Go.RowKit List
open List renaming drop_eq_getElem_cons->aA,getElem?_eq_getElem->aB,getElem_mem->aC,length_map->aD,drop_eq_nil_of_le->aJ,mem_cons_of_mem->aK,getD_eq_getElem?_getD->aL,replicate->aM,drop_zero->aN,range->aQ,mem_cons->aR,mem_range->aS,foldl_cons->aT,ext_getElem->aV,getElem?_map->aY,mem_map->aZ,countP_mono_left->bA,mem_filter->bC
open Nat renaming zero_le->aE,le_trans->aW
open Int renaming toNat_natCast->aF
open Or renaming inl->aG,inr->aH
open IntKind renaming wrap->aO
open Bool renaming and_eq_true->aP,not_false->aU,not_eq_true'->aX,not_true->bD
abbrev cf0:Cf:=⟨0,[],[]⟩
def hasI (l:List Int)(n:Int):Bool:=l.any fun y=>decide (n=y)
theorem zvu (n:Nat)(s:Int)(l:List Int)(b:l.length<=1100000):∀ (m k:Nat),k<=l.length->l.length<m+k->Q6 n s l (some false) m (k:Int)=some (hasI (l.drop k) s)
 |0,k,h1,d=>by omega
 |m+1,k,h1,d=>by
  unfold Q6;simp only [aD,A4];by_cases h:k<l.length
  ·rw [if_pos (by omega),Ae h,B4 l k h,Ai k (by omega),zvu n s l b m (k+1) (by omega) (by omega)];unfold hasI;grind
  ·rw [if_neg (by omega),aJ (by omega)];rfl
theorem ybl (n:Nat)(s:Int)(l:List Int)(b:l.length<=1100000)(d:l.length<n):V6 n l s=some (hasI l s):=by
 have:=zvu n s l b n 0 (by omega) (by omega);unfold V6;simp_all
def Xh (a:Aut)(s:Int):List Gd:=match a.fStates[s.toNat]? with|some s=>s.fGuards|none=>[]
def chE (x:Ed):List Exn:=x.fChecks.filterMap C8
variable {x:Ed}
theorem y2o {ys:List Exn}(h:x.fChecks=ys.map Ay):chE x=ys:=by
 unfold chE;rw [h,filterMap_map];have:(C8 ∘ Ay)=some:=by funext y;exact Mn y
 rw [this,filterMap_some]
def ckP (x:Ed)(env:List (List Ev)):Bool:=(chE x).all (fun y=>trR env y (-1) ev0)
def gdP (a:Aut)(c:Cf)(x:Ed)(env:List (List Ev))(e:Ev):Bool:=(Xh a c.fState).any (fun g=>!hasI x.fInside g.fScope && vio env e g)
def stN (c:Cf)(x:Ed)(e:Ev):List Sta:=opL c.fStarts x.fOpens e.fTime
def bdN (c:Cf)(x:Ed)(e:Ev):List Bd:=c.fBindings++[⟨x.fVar,Bl e⟩]
def coP (a:Aut)(held:List Ev)(c:Cf)(x:Ed)(e:Ev):Option Cf :=
 if x.fType=e.fType/\gdP a c x (enH held c.fBindings) e=false/\trR (enH held c.fBindings) x.fCond x.fVar e=true/\x.fLimits.all (keP (stN c x e) e.fTime)=true/\ckP x (enH (e::held) (bdN c x e))=true then some ⟨x.fTo,bdN c x e,(stN c x e).filter (ncl x)⟩ else none
def rfC:Option Cf->Cf×Bool |some c=>(c,true) |none=>(cf0,false)
structure CB (held:List Ev) (a:Aut) (k:Nat) (c:Cf):Prop where
 st:0<=c.fState/\c.fState<a.fStates.length
 bd:BdOk held a.fVars c.fBindings
 ss:SS c.fStarts
 lb:c.fBindings.length<=k
 ls:c.fStarts.length<=100*k
structure CxA (a:Aut) (held:List Ev):Prop where
 wf:WfA a
 ok:AOk a
 lo:∀ x∈a.fEdges,x.fOpens.length<=100
 lh:held.length<=10000
variable {a:Aut}
theorem Xa {s:Int}(h:0<=s/\s<a.fStates.length):∃ b:Stt,a.fStates[s.toNat]? = some b/\b∈a.fStates/\Xh a s=b.fGuards:=by
 have:s.toNat<a.fStates.length:=by omega
 refine ⟨a.fStates[s.toNat],aB this,aC this,?_⟩;unfold Xh;rw [aB this]
variable {β:Type}
theorem zge {α:Type}{l:List α}{n:Int}{x:α}(b:0<=n)(h:l[n.toNat]? = some x)(k:α->Option β):idx l n k=k x:=by
 unfold idx;rw [if_pos b,h]
variable {k:Nat}
theorem zu1 {ys:List Exn}(h:x.fChecks=ys.map Ay)(b:k<ys.length)(Q:Exn->Option β):idxD C8 x.fChecks (k:Int) Q=Q ys[k]:=by
 unfold idxD;rw [if_pos (by omega),h];simp [b,Mn]
theorem zpm (e:Ev)(x:Ed)(c:Cf)(held:List Ev)(env:List (List Ev))(f:EvS env)(b:Stt)(i:b.fGuards.length<=1100000)(d:∀ g∈b.fGuards,WfE g.fCond)(hi:x.fInside.length<=1100000)(K:List (List Ev)->Option (Cf×Bool)):∀ (m k:Nat),k<=b.fGuards.length->b.fGuards.length<m+k->Hw N0 e x c held ⟨env⟩ b K m (k:Int)=if (b.fGuards.drop k).any (fun g=>!hasI x.fInside g.fScope && vio env e g)=true then some (cf0,false) else K env
 |0,k,h1,o=>by omega
 |m+1,k,h1,o=>by
  unfold Hw;simp only [aD,A4,B5,Ar,K6];by_cases h:k<b.fGuards.length
  ·rw [if_pos (by omega),Ae h,B4 _ k h,any_cons,ybl N0 _ _ hi (by unfold N0;omega),A0,Ai k (by omega),zpm e x c held env f b i d hi K m (k+1) (by omega) (by omega),Ae h,y0b f (d _ (aC h)),A0];cases hasI x.fInside b.fGuards[k].fScope with
   |true=>simp [Aw]
   |false =>
    simp only [aU,Au,Bool.true_and];cases vio env e b.fGuards[k]<;>simp [Au,Aw]
  grind
theorem zpl (e:Ev)(x:Ed)(c:Cf)(held:List Ev)(g:x.fOpens.length<=1100000)(K:List Sta->Option (Cf×Bool)):∀ (m k:Nat) (b:List Sta),k<=x.fOpens.length->x.fOpens.length<m+k->SS b->b.length+(x.fOpens.length-k)<=1100000->Ok N0 e x c held K m ((k:Int),b)=K ((x.fOpens.drop k).foldl (fun l s=>opS l s e.fTime) b)
 |0,k,b,h1,o,d,i=>by omega
 |m+1,k,b,h1,o,d,i=>by
  unfold Ok;simp only [aD,A4];by_cases h:k<x.fOpens.length
  ·have f:=ztu b x.fOpens[k] e.fTime;rw [if_pos (by omega),Ae h,B4 _ k h,aT,y0d N0 _ _ b d (by omega) (by unfold N0;omega),A0,Ai k (by omega)];exact zpl e x c held g K m (k+1) _ (by omega) (by omega) (y14 d _ _) (by omega)
  grind
theorem zpk (e:Ev)(x:Ed)(c:Cf)(held:List Ev)(d:x.fLimits.length<=1100000)(s:List Sta)(b:s.length<=1100000)(K:Option (Cf×Bool)):∀ (m k:Nat),k<=x.fLimits.length->x.fLimits.length<m+k->Oj N0 e x c held s K m (k:Int)=if (x.fLimits.drop k).all (keP s e.fTime)=true then K else some (cf0,false)
 |0,k,h1,f=>by omega
 |m+1,k,h1,f=>by
  unfold Oj;simp only [aD,A4,Am];by_cases h:k<x.fLimits.length
  ·rw [if_pos (by omega),Ae h,B4 _ k h,all_cons,y9s N0 _ _ s b (by unfold N0;omega),A0,Ai k (by omega),zpk e x c held d s b K m (k+1) (by omega) (by omega)];cases keP s e.fTime x.fLimits[k]<;>simp [Au,Aw]
  grind
theorem zpj (x:Ed)(s:List Sta)(bs:List Bd)(env:List (List Ev))(f:EvS env)(ys:List Exn)(b:x.fChecks=ys.map Ay)(e:∀ y∈ys,WfE y)(g:ys.length<=1100000)(K:List Bd->Option (Cf×Bool)):∀ (m k:Nat),k<=ys.length->ys.length<m+k->Oi N0 x s bs ⟨env⟩ K m (k:Int)=if (ys.drop k).all (fun y=>trR env y (-1) ev0)=true then K bs else some (cf0,false)
 |0,k,h1,i=>by omega
 |m+1,k,h1,i=>by
  unfold Oi;have d:x.fChecks.length=ys.length:=by rw [b,aD]
  simp only [aD,A4,Am,d];by_cases h:k<ys.length
  ·rw [if_pos (by omega),zu1 b h,B4 _ k h,all_cons,(O0 (fun v=>rfl:EvEq env env) f (e _ (aC h)) (-1) ev0).1,A0,Ai k (by omega),zpj x s bs env f ys b e g K m (k+1) (by omega) (by omega)];cases trR env ys[k] (-1) ev0<;>simp [Au,Aw]
  grind
theorem zpi (x:Ed)(bs:List Bd)(f:x.fCloses.length<=1100000)(K:List Sta->Option (Cf×Bool)):∀ (m k:Nat) (b:List Sta),k<=x.fCloses.length->x.fCloses.length<m+k->b.length<=1100000->Oh N0 x bs K m ((k:Int),b)=K ((x.fCloses.drop k).foldl clS b)
 |0,k,b,h1,g,d=>by omega
 |m+1,k,b,h1,g,d=>by
  unfold Oh;simp only [aD,A4];by_cases h:k<x.fCloses.length
  ·have e:=y2l b x.fCloses[k];rw [if_pos (by omega),Ae h,B4 _ k h,aT,zw5 N0 _ b d (by unfold N0;omega),A0,Ai k (by omega)];exact zpi x bs f K m (k+1) _ (by omega) (by omega) (by omega)
  grind
variable {held:List Ev}{c:Cf}
theorem zy1 (b:CxA a held)(Z:k<=1000)(q:CB held a k c)(i:x∈a.fEdges)(e:Ev):L5 N0 a held c x e=some (rfC (coP a held c x e)):=by
 have P:=q.lb;have M:=q.ls;have N:=b.lo x i;have O:=b.lh;have wx:=b.wf.ed x i;have Q:=zm8 e.fTime x.fOpens c.fStarts;obtain ⟨f,V,F,U⟩:=Xa q.st;obtain ⟨ys,B,z⟩:=wx.checks;have A:ys.length<=1100000:=by have:=wx.lc;rw [B,aD] at this;exact this
 have p:EvS (enH held c.fBindings):=Jm (by omega);have o:EvS (enH (e::held) (bdN c x e)):=Jm (by unfold bdN;simp;omega);unfold L5;rw [y0f N0 (by decide) held (by omega) c (by omega),A0,zge q.st.1 V];have L:=zpm e x c held (enH held c.fBindings) p f (b.wf.st f F).1 (b.wf.st f F).2 wx.li (fun k1_0_0y=>jon (Eg N0 e x c held) <| reg <| cnd (!decide (x.fType=e.fType)) (Eg N0 e x c held true) <| bnd (G1 N0 x.fCond (⟨k1_0_0y⟩:Aq) x.fVar e) fun d=>Eg N0 e x c held !(d)) N0 0 (aE _) (by have:=(b.wf.st f F).1;unfold N0;omega);refine L.trans ?_;rw [aN];have C:gdP a c x (enH held c.fBindings) e=f.fGuards.any (fun g=>!hasI x.fInside g.fScope && vio (enH held c.fBindings) e g):=by unfold gdP;rw [U]
 rw [<-C];unfold coP;by_cases u:gdP a c x (enH held c.fBindings) e=true
 ·rw [if_pos u,if_neg (by rw [u];simp)];rfl
 have w:gdP a c x (enH held c.fBindings) e=false:=by simpa using u
 rw [if_neg u];simp only [B5,Ar,Am,A4];have j3t:Eg N0 e x c held true=some (cf0,false):=by unfold Eg;rw [Au]
 by_cases r:x.fType=e.fType;rotate_left
 ·rw [if_neg r,j3t,if_neg (fun h=>r h.1)];rfl
 rw [if_pos r,(O0 (fun v=>rfl:EvEq (enH held c.fBindings) (enH held c.fBindings)) p wx.cond x.fVar e).1,A0];cases Y:trR (enH held c.fBindings) x.fCond x.fVar e with
 |false =>
  simp only [aU,j3t];rw [if_neg (by simp)];rfl
 |true =>
  simp only [bD];unfold Eg;rw [Aw];have m:(stN c x e).length<=1100000:=by unfold stN;omega
  have J:=fun K=>zpl e x c held wx.lo K N0 0 c.fStarts (aE _) (by have:=wx.lo;unfold N0;omega) q.ss (by omega)
  refine (J _).trans ?_;rw [aN];have D:x.fOpens.foldl (fun l s=>opS l s e.fTime) c.fStarts=stN c x e:=rfl;rw [D];have I:=fun K=>zpk e x c held wx.ll (stN c x e) m K N0 0 (aE _) (by have:=wx.ll;unfold N0;omega)
  refine (I _).trans ?_;rw [aN];cases X:x.fLimits.all (keP (stN c x e) e.fTime) with
  |false =>
   rw [if_neg (by simp),if_neg (by simp)];rfl
  |true =>
   rw [if_pos rfl,C1 (by simp;omega) (by omega),y7b,A0];unfold bldS;simp only [];rw [C1 (by grind) (by omega),y69,Ar];unfold bld;simp only [];rw [C1 (by grind) (by omega)];have T:([]++c.fBindings++[⟨x.fVar,⟨e.fTime,e.fSource,e.fSeq⟩⟩]:List Bd)=bdN c x e:=rfl;have S:([e]++held:List Ev)=e::held:=rfl;rw [T,S,y0f N0 (by decide) (e::held) (by simp;omega) _ (by unfold bdN;simp;omega),A0];have H:=fun K=>zpj x (stN c x e) (bdN c x e) (enH (e::held) (bdN c x e)) o ys B z A K N0 0 (aE _) (by unfold N0;omega)
   refine (H _).trans ?_;have E:ckP x (enH (e::held) (bdN c x e))=ys.all (fun y=>trR (enH (e::held) (bdN c x e)) y (-1) ev0):=by unfold ckP;rw [y2o B]
   rw [aN,<-E];cases W:ckP x (enH (e::held) (bdN c x e)) with
   |false =>
    rw [if_neg (by simp),if_neg (by simp)];rfl
   |true =>
    rw [if_pos rfl,if_pos ⟨r,w,by simp⟩];have G:=fun K=>zpi x (bdN c x e) wx.lcl K N0 0 (stN c x e) (aE _) (by have:=wx.lcl;unfold N0;omega) m
    refine (G _).trans ?_;rw [aN,yav];rfl
theorem y4r {e:Ev}(d:∀ y∈held,Bl y=Bl e->y=e){r:Rf}(h:(lkH held r).isSome=true):lkH (e::held) r=lkH held r:=by
 obtain ⟨y,b⟩:=Option.isSome_iff_exists.1 h;obtain ⟨h1,f⟩:=zmg b;have:lkH (e::held) r=if Bl e=r then some e else lkH held r:=by
  unfold lkH;rw [find?_cons];grind
 grind
theorem y8g (vs:List (List Ev))(i:Nat)(hi:i<vs.length)(q:List Ev)(v:Int):evs (vs.set i q) v=if v=(i:Int) then q else evs vs v:=by
 unfold evs;grind
variable {v:Int}
theorem y59 (p:AOk a){e:Ev}(g:∀ y∈held,Bl y=Bl e->y=e){l:List Bd}(m:BdOk held a.fVars l)(r:0<=v/\v<a.fVars):EvEq (enH (e::held) (l++[⟨v,Bl e⟩])) ((bndV held a.fVars.toNat l).set v.toNat ((bndV held a.fVars.toNat l).getD v.toNat []++[e])):=fun w=>by
 have f:=p.vars;have d:v.toNat<(bndV held a.fVars.toNat l).length:=by rw [Nm];omega
 have o:(bndV held a.fVars.toNat l).getD v.toNat []=ev1 held l v:=by
  have:=Jk held a.fVars.toNat l v;unfold evs at this;rw [if_neg (by omega),Nm,if_neg (by omega),if_pos (by omega)] at this;exact this
 have h1:ev1 (e::held) (l++[⟨v,Bl e⟩]) w=ev1 held l w++(if v=w then [e] else []):=by
  unfold ev1;rw [filterMap_append];congr 1
  ·have:∀ b∈l,(if b.fVar=w then lkH (e::held) b.fRef else none)=(if b.fVar=w then lkH held b.fRef else none):=fun b i=>by rw [y4r g (m b i).2]
   clear o
   induction l with
   |nil=>rfl
   |cons b l ih =>
    rw [filterMap_cons,filterMap_cons,this b (by simp),ih (fun b h=>m b (aK _ h)) (by simpa [Nm] using d) (fun b h=>this b (aK _ h))]
  ·have:lkH (e::held) (Bl e)=some e:=by unfold lkH;rw [find?_cons];simp
   grind
 rw [y8g _ _ d,Jk,h1,o];by_cases q:v=w
 ·grind
 ·rw [if_neg q,append_nil,if_neg (show ¬w=((v.toNat:Nat):Int) by omega)];have:=y21 ⟨f.1,f.2⟩ m w;rw [Jk] at this;exact this
theorem y7l {a b:List (List Ev)}(d:EvEq a b)(h:EvS a){g:Gd}(f:WfE g.fCond)(x:Ed)(hi:x.fInside.length<=1100000)(e:Ev):Ia N0 g x ⟨b⟩ e=some (!hasI x.fInside g.fScope && vio a e g):=by
 unfold Ia;simp only [B5,Ar,Kb];rw [zc2 N0 _ _ (by omega) (by unfold N0;omega),A0,Am];have:(x.fInside.any fun y=>decide (g.fScope=y))=hasI x.fInside g.fScope:=rfl;rw [this,y5u d h f e,A0];cases hasI x.fInside g.fScope<;>simp [Au,Aw]
theorem zw4 (e:Ev)(x:Ed)(c:Cf)(s:List Sta)(a b:List (List Ev))(d:EvEq a b)(o:EvS a)(ys:List Exn)(f:x.fChecks=ys.map Ay)(i:∀ y∈ys,WfE y)(p:ys.length<=1100000)(K:List Sta->Option (Cf×Bool)):∀ (m k:Nat),k<=ys.length->ys.length<m+k->Pk N0 e x c s b K m (k:Int)=if (ys.drop k).all (fun y=>trR a y (-1) ev0)=true then K s else some (cf0,false)
 |0,k,h1,q=>by omega
 |m+1,k,h1,q=>by
  unfold Pk;have g:x.fChecks.length=ys.length:=by rw [f,aD]
  simp only [aD,A4,Am,g];by_cases h:k<ys.length
  ·rw [if_pos (by omega),zu1 f h,B4 _ k h,all_cons,(O0 d o (i _ (aC h)) (-1) ev0).2,A0,Ai k (by omega),zw4 e x c s a b d o ys f i p K m (k+1) (by omega) (by omega)];cases trR a ys[k] (-1) ev0<;>simp [Au,Aw]
  grind
theorem zq8 {r:B9}(b:CxA r.fa held)(hk:k<=1000)(m:CB held r.fa k c)(f:x∈r.fa.fEdges){e:Ev}(L:∀ y∈held,Bl y=Bl e->y=e):Qv N0 r c x ⟨bndV held r.fa.fVars.toNat c.fBindings⟩ e=some (rfC (coP r.fa held c x e)):=by
 have U:=m.lb;have Q:=m.ls;have S:=b.lo x f;have T:=b.lh;have u:=b.ok.vars;have wx:=b.wf.ed x f;have xv:=(b.ok.ed x f).var;have V:=zm8 e.fTime x.fOpens c.fStarts;obtain ⟨p,Y,N,X⟩:=Xa m.st;obtain ⟨ys,E,C⟩:=wx.checks;have D:ys.length<=1100000:=by have:=wx.lc;rw [E,aD] at this;exact this
 have i:EvS (enH held c.fBindings):=Jm (by omega);have z:EvS (enH (e::held) (bdN c x e)):=Jm (by unfold bdN;simp;omega);have o:=y21 ⟨u.1,u.2⟩ m.bd;have j1t:Fv N0 e ⟨bndV held r.fa.fVars.toNat c.fBindings⟩ x c true=some (cf0,false):=by unfold Fv;rw [Au]
 unfold Qv;simp only [B5,Ar,Am,A4];unfold coP;by_cases A:x.fType=e.fType;rotate_left
 ·rw [if_neg (fun h=>A h.symm),j1t,if_neg (fun h=>A h.1)];rfl
 rw [if_pos A.symm,zge m.st.1 Y];rw [ztn N0 x ⟨bndV held r.fa.fVars.toNat c.fBindings⟩ e (fun g=>!hasI x.fInside g.fScope && vio (enH held c.fBindings) e g) p.fGuards (by have:=(b.wf.st p N).1;omega) (by have:=(b.wf.st p N).1;unfold N0;omega) (fun g W=>y7l o i ((b.wf.st p N).2 g W) x wx.li e),A0];have G:gdP r.fa c x (enH held c.fBindings) e=p.fGuards.any (fun g=>!hasI x.fInside g.fScope && vio (enH held c.fBindings) e g):=by unfold gdP;rw [X]
 rw [<-G];cases q1:gdP r.fa c x (enH held c.fBindings) e with
 |true =>
  rw [Au,j1t,if_neg (by simp)];rfl
 |false =>
 rw [Aw,(O0 o i wx.cond x.fVar e).2,A0];cases q3:trR (enH held c.fBindings) x.fCond x.fVar e with
 |false =>
  simp only [aU,j1t];rw [if_neg (by simp)];rfl
 |true =>
  simp only [bD];unfold Fv;have w:(stN c x e).length<=1100000:=by unfold stN;omega
  rw [Aw,y4e N0 e.fTime x.fOpens c.fStarts m.ss (by omega) (by decide),Nd];have H:opL c.fStarts x.fOpens e.fTime=stN c x e:=rfl;rw [H,y4f N0 e.fTime (stN c x e) w (by decide) x.fLimits wx.ll,A0,Am];cases q4:x.fLimits.all (keP (stN c x e) e.fTime) with
  |false =>
   rw [Aw,if_neg (by simp)];rfl
  |true =>
   have d:x.fVar.toNat<(bndV held r.fa.fVars.toNat c.fBindings).length:=by rw [Nm];omega
   have P:((bndV held r.fa.fVars.toNat c.fBindings).getD x.fVar.toNat []).length<=1000000:=by
    have h1:=o x.fVar;have B:=i x.fVar;rw [h1] at B;unfold evs at B;rw [if_neg (by omega),Nm,if_neg (by omega)] at B;exact B
   have M:=Nm held r.fa.fVars.toNat c.fBindings;have q:(bndV held r.fa.fVars.toNat c.fBindings)[x.fVar.toNat]=(bndV held r.fa.fVars.toNat c.fBindings).getD x.fVar.toNat []:=by
    simp [aL,d]
   unfold C4;rw [Au,if_pos (by rw [M];omega),Nd,y85 xv.1 d,q,if_pos (by omega),Nd,C1 (by grind) (by omega),aD,y7u xv.1 d,T3 d];have I:=y59 b.ok L m.bd xv;have O:=fun K=>zw4 e x c (stN c x e) (enH (e::held) (bdN c x e)) _ I z ys E C D K N0 0 (aE _) (by unfold N0;omega)
   refine (O _).trans ?_;have J:ckP x (enH (e::held) (bdN c x e))=ys.all (fun y=>trR (enH (e::held) (bdN c x e)) y (-1) ev0):=by unfold ckP;rw [y2o E]
   rw [aN,<-J];cases Z:ckP x (enH (e::held) (bdN c x e)) with
   |false =>
    rw [if_neg (by simp),if_neg (by simp)];rfl
   |true =>
    rw [if_pos rfl,y4h N0 x wx.lcl (by decide) _ w,Cn,if_pos (by omega),Nd];have F:Jg N0 e=some ⟨e.fTime,e.fSource,e.fSeq⟩:=rfl;rw [F,A0,C1 (by grind) (by omega),if_pos (by simp [A])];rfl
abbrev Mp:=List (Int×Bool)
def ixs (k n:Nat):List (Option Nat):=(aQ k).map some++aM (n-k) none
variable {n:Nat}
theorem y81 (h:k<=n):(ixs k n).length=n:=by unfold ixs;simp;omega
variable {j:Nat}
theorem y82 (b:j<k):(ixs k n)[j]? = some (some j):=by
 unfold ixs;grind
theorem y80 (h:k<n):(ixs k n).set k (some k)=ixs (k+1) n:=by
 unfold ixs;rw [set_append_right _ _ (by simp)];obtain ⟨d,e⟩:∃ d,n-k=d+1:=⟨n-k-1,by omega⟩;have b:n-(k+1)=d:=by omega
 rw [e,b,range_succ,map_append,replicate_succ];simp
section
variable {β:Type}
variable {os:List Mp}
theorem zxg (b:j<k)(c:Nat->Option β):aob (ixs k n,os) j c=c j:=by
 unfold aob;simp only [y82 b]
theorem y6m (h:k<n)(b:os.length=k)(v:Mp)(c:Ars Mp->Option β):ast (ixs k n,os) k v c=c (ixs (k+1) n,os++[v]):=by
 unfold ast;simp only [y81 (Nat.le_of_lt h)];rw [if_pos h,b,y80 h]
variable {ix:List (Option Nat)}
theorem y2v {l:Mp}(d:os[j]? = some l)(b:Srt l)(k:Int)(v:Bool)(c:Ars Mp->Option β):aup (ix,os) j k v c=c (ix,os.set j (sput l k v)):=by
 unfold aup;simp only [d];rw [if_pos (show (l.map (·.1)).Pairwise (· < ·) from b)]
theorem yb1 {l:Mp}(b:os[j]? = some l)(k:Int)(z:Bool)(c:Bool->Bool->Option β):alk (ix,os) j k z c=c ((mlk l k).getD z) (mlk l k).isSome:=by
 unfold alk;simp only [b]
theorem y66 (h:n<=1000000)(k:Nat->Option β):mkm (n:Int) 8 k=k n:=by unfold mkm;grind
theorem y6n (i:Nat)(x:Option β):are i x=x:=by unfold are;rfl
theorem yaf (i:Nat)(x:Option β):frm i x=x:=by unfold frm;rfl
theorem y1f (n:Nat):mkA Mp n=(ixs 0 n,[]):=by unfold mkA ixs;simp
end
variable {os:List Mp}
theorem zs6 (h:os.length=n):aval (ixs n n,os)=os:=by
 unfold aval ixs;subst h;apply aV;all_goals simp_all
structure F0 (l:Mp):Prop where
 srt:Srt l
 all:∀ p∈l,p.2=true/\0<=p.1/\p.1<16
def has (l:Mp)(v:Int):Prop:=v∈l.map (·.1)
variable {l:Mp}
theorem ztw (h:F0 l)(v:Int):(mlk l v).getD false=true ↔ has l v:=by
 have f:=h.all;clear h
 induction l with
 |nil=>simp [mlk,has]
 |cons p r ih =>
  obtain ⟨a,b⟩:=p;have d:=(f (a,b) (by simp)).1;simp only at d;subst d;unfold mlk;by_cases e:v=a
  ·subst e;simp [has]
  ·rw [if_neg e];exact Iff.trans (ih (fun p g=>f p (aK _ g))) (by simp [has,e])
theorem y3q {k:Int}{v:Bool}:∀ p,p∈sput l k v->p=(k,v)\/p∈l:=by
 induction l with
 |nil=>intro p d;simpa [sput] using d
 |cons q r ih =>
  obtain ⟨a,b⟩:=q;intro p d;simp only [sput] at d;grind
theorem F0.put (h:F0 l)(b:0<=v/\v<16):F0 (sput l v true) :=
 ⟨zlt h.srt,fun p d=>(y3q p d).elim (fun e=>by rw [e];exact ⟨rfl,b⟩) (h.all p)⟩
theorem zu2 {x:Int}:has (sput l v true) x ↔ x=v\/has l x:=zv5 x
theorem y1i {b:Mp}(h:F0 l)(g:F0 b)(r:∀ x,has l x ↔ has b x):l=b:=by
 have m:Str cmpI (l.map (·.1)):=h.srt.imp (fun q=>(Xj _ _).2 q);have i:Str cmpI (b.map (·.1)):=g.srt.imp (fun q=>(Xj _ _).2 q);have e:=Str.uniq Hl m i r;have f:∀ q:Mp,(∀ p∈q,p.2=true)->q=(q.map (·.1)).map (fun x=>(x,true)):=fun q o=>by
  rw [map_map];conv=>lhs;rw [<-map_id q]
  exact map_congr_left (fun p d=>by have:=o p d;cases p;simp_all)
 rw [f l (fun p d=>(h.all p d).1),f b (fun p d=>(g.all p d).1),e]
structure OsOk (k:Nat) (os:List Mp):Prop where
 len:os.length=k
 map:∀ l∈os,F0 l
def hasO (os:List Mp)(s:Nat)(v:Int):Prop:=∃ l,os[s]? = some l/\has l v
variable {s:Nat}
theorem OsOk.at (h:OsOk k os)(d:s<k):∃ l,os[s]? = some l/\F0 l:=by
 have b:s<os.length:=by rw [h.len];exact d
 exact ⟨os[s],aB b,h.map _ (aC b)⟩
theorem OsOk.put (h:OsOk k os)(f:os[s]? = some l)(m:0<=v/\v<16):OsOk k (os.set s (sput l v true))/\∀ t x,hasO (os.set s (sput l v true)) t x ↔ hasO os t x\/(t=s/\x=v):=by
 obtain ⟨i,o⟩:=List.getElem?_eq_some_iff.1 f;have hm:F0 l:=by rw [<-o];exact h.map _ (aC i)
 refine ⟨⟨by rw [length_set];exact h.len,fun q b=>?_⟩,fun t x=>?_⟩
 ·rcases mem_or_eq_of_mem_set b with g|g
  ·exact h.map q g
  ·rw [g];exact hm.put m
 ·unfold hasO;rw [getElem?_set];by_cases e:s=t
  ·subst e;rw [if_pos rfl,if_pos i];constructor
   ·rintro ⟨q,b,d⟩;injection b with b
    subst b;exact (zu2.1 d).elim (fun e=>aH ⟨rfl,e⟩) (fun d=>aG ⟨l,f,d⟩)
   ·rintro (⟨q,b,d⟩|⟨_,e⟩)
    ·rw [f] at b;injection b with b;subst b
     exact ⟨_,rfl,zu2.2 (aH d)⟩
    ·exact ⟨_,rfl,zu2.2 (aG e)⟩
  grind
def OccV (v:Int)(e:Exn):Prop:=∃ i:Nat,i<16/\v=(i:Int)/\Occ i e
variable {m0n:Nat}
theorem zps (z:n<=1000000)(d:s<k)(e:s<m0n)(q:List AV)(i:Int×Ars Mp)(vs:List Int)(f:vs.length<=100)(o:∀ v∈vs,0<=v/\v<16)(K:Ars Mp->Option (Nat×Ars Mp)) :
  ∀ (m j:Nat) (os:List Mp),j<=vs.length->vs.length<m+j->OsOk k os->∃ os',Ou N0 m0n q (s:Int) i vs K m ((j:Int),(ixs k n,os))=K (ixs k n,os')/\OsOk k os'/\∀ t x,hasO os' t x ↔ hasO os t x\/(t=s/\x∈vs.drop j)
 |0,j,os,h1,b,_=>by omega
 |m+1,j,os,h1,b,g=>by
  unfold Ou;simp only [aD,A4];by_cases h:j<vs.length
  ·obtain ⟨l,p,hm⟩:=g.at d;obtain ⟨y,o2⟩:=g.put p (o _ (aC h));rw [if_pos (by omega),Ae h,Ep (by omega) (by rw [aF];exact e),aF,zxg d,y2v p hm.srt,Ai j (by omega)];obtain ⟨os',w,u,r⟩:=zps z d e q i vs f o K m (j+1) _ (by omega) (by omega) y;refine ⟨os',w,u,fun t x=>?_⟩;rw [r,o2,aA h,aR];constructor
   ·rintro ((h|⟨h1,b⟩)|⟨h1,b⟩)
    ·exact aG h
    ·exact aH ⟨h1,aG b⟩
    ·exact aH ⟨h1,aH b⟩
   ·rintro (h|⟨h1,b|b⟩)
    ·exact aG (aG h)
    ·exact aG (aH ⟨h1,b⟩)
    ·exact aH ⟨h1,b⟩
  ·rw [if_neg (by omega)];refine ⟨os,rfl,g,fun t x=>?_⟩;rw [aJ (by omega)];simp
theorem zkl (z:n<=1000000)(d:s<k)(e:s<m0n)(q:List AV)(i:Int×Ars Mp)(vs:List Int)(f:vs.length<=100)(o:∀ v∈vs,0<=v/\v<16)(K:Ars Mp->Option (Nat×Ars Mp)) :
  ∀ (m j:Nat) (os:List Mp),j<=vs.length->vs.length<m+j->OsOk k os->∃ os',O8 N0 q m0n (s:Int) i vs K m ((j:Int),(ixs k n,os))=K (ixs k n,os')/\OsOk k os'/\∀ t x,hasO os' t x ↔ hasO os t x\/(t=s/\x∈vs.drop j)
 |0,j,os,h1,b,_=>by omega
 |m+1,j,os,h1,b,g=>by
  unfold O8;simp only [aD,A4];by_cases h:j<vs.length
  ·obtain ⟨l,p,hm⟩:=g.at d;obtain ⟨y,o2⟩:=g.put p (o _ (aC h));rw [if_pos (by omega),Ae h,Ep (by omega) (by rw [aF];exact e),aF,zxg d,y2v p hm.srt,Ai j (by omega)];obtain ⟨os',w,u,r⟩:=zkl z d e q i vs f o K m (j+1) _ (by omega) (by omega) y;refine ⟨os',w,u,fun t x=>?_⟩;rw [r,o2,aA h,aR];constructor
   ·rintro ((h|⟨h1,b⟩)|⟨h1,b⟩)
    ·exact aG h
    ·exact aH ⟨h1,aG b⟩
    ·exact aH ⟨h1,aH b⟩
   ·rintro (h|⟨h1,b|b⟩)
    ·exact aG (aG h)
    ·exact aG (aH ⟨h1,b⟩)
    ·exact aH ⟨h1,b⟩
  ·rw [if_neg (by omega)];refine ⟨os,rfl,g,fun t x=>?_⟩;rw [aJ (by omega)];simp
theorem zwd {e:Exn}{vs:List Int}(h:∀ v,v∈vs ↔ ∃ i:Nat,i<16/\v=(i:Int)/\Occ i e)(v:Int):v∈vs ↔ OccV v e:=h v
theorem yad {es:List Exn}(h:k<es.length)(K:Exn->Option β):idxD C8 (es.map Ay) (k:Int) K=K es[k]:=by
 unfold idxD;rw [if_pos (by omega)];simp only [aF,aY,aB h,Option.map_some,Mn]
theorem yao {es:List Exn}(h:k<es.length)(K:Exn->Option β):eltD C8 (es.map Ay) k K=K es[k]:=by
 unfold eltD;simp only [aY,aB h,Option.map_some,Mn]
theorem zpt (r:n<=1000000)(d:s<k)(f:s<m0n)(es:List Exn)(o:es.length<=2000000)(p:∀ e∈es,WfE e)(K:Ars Mp->Option (Nat×Ars Mp)) :
  ∀ (m j:Nat) (os:List Mp),j<=es.length->es.length<m+j->OsOk k os->∃ os',Kc N0 m0n (es.map Ay) (s:Int) K m ((j:Int),(ixs k n,os))=K (ixs k n,os')/\OsOk k os'/\∀ t x,hasO os' t x ↔ hasO os t x\/(t=s/\∃ e∈es.drop j,OccV x e)
 |0,j,os,h1,b,_=>by omega
 |m+1,j,os,h1,b,q=>by
  unfold Kc;simp only [aD,A4];by_cases h:j<es.length
  ·obtain ⟨vs,w,E,u⟩:=zha (p _ (aC h)) N0 (by decide);rw [if_pos (by omega),yad h,w,A0];obtain ⟨i,D,C,B⟩:=zps r d f (es.map Ay) ((j:Int),(ixs k n,os)) vs (by omega) (fun v F=>by grind) (fun k2_1_0y=>(Kc N0 m0n (es.map Ay) (s:Int) K m) ((aO .i64 (((j:Int),(ixs k n,os)).1+1)),k2_1_0y)) N0 0 os (aE _) (by unfold N0;omega) q;refine Exists.imp (fun os'=>?_) (zpt r d f es o p K m (j+1) i (by omega) (by omega) C);rintro ⟨A,z,y⟩;refine ⟨?_,z,fun t x=>?_⟩
   ·refine Eq.trans D ?_;simp only;rw [Ai j (by omega)];exact A
   ·rw [y,B,aN,aA h,zwd u];constructor
    ·rintro ((h|⟨h1,b⟩)|⟨h1,e,b,g⟩)
     ·exact aG h
     ·exact aH ⟨h1,_,mem_cons_self,b⟩
     ·exact aH ⟨h1,e,aK _ b,g⟩
    ·rintro (h|⟨h1,e,b,g⟩)
     ·exact aG (aG h)
     ·rcases aR.1 b with b|b
      ·subst b;exact aG (aH ⟨h1,g⟩)
      ·exact aH ⟨h1,e,b,g⟩
  ·rw [if_neg (by omega)];refine ⟨os,rfl,q,fun t x=>?_⟩;rw [aJ (by omega)];simp
theorem zkm (r:n<=1000000)(d:s<k)(f:s<m0n)(es:List Exn)(o:es.length<=2000000)(p:∀ e∈es,WfE e)(K:Ars Mp->Option (Nat×Ars Mp)) :
  ∀ (m j:Nat) (os:List Mp),j<=es.length->es.length<m+j->OsOk k os->∃ os',K0 N0 (es.map Ay) m0n (s:Int) K m ((j:Int),(ixs k n,os))=K (ixs k n,os')/\OsOk k os'/\∀ t x,hasO os' t x ↔ hasO os t x\/(t=s/\∃ e∈es.drop j,OccV x e)
 |0,j,os,h1,b,_=>by omega
 |m+1,j,os,h1,b,q=>by
  unfold K0;simp only [aD,A4];by_cases h:j<es.length
  ·obtain ⟨vs,w,E,u⟩:=zha (p _ (aC h)) N0 (by decide);rw [if_pos (by omega),Cv h,yao h,w,A0];obtain ⟨i,D,C,B⟩:=zkl r d f (es.map Ay) ((j:Int),(ixs k n,os)) vs (by omega) (fun v F=>by grind) (fun k2_1_0y=>(K0 N0 (es.map Ay) m0n (s:Int) K m) ((aO .i64 (((j:Int),(ixs k n,os)).1+1)),k2_1_0y)) N0 0 os (aE _) (by unfold N0;omega) q;refine Exists.imp (fun os'=>?_) (zkm r d f es o p K m (j+1) i (by omega) (by omega) C);rintro ⟨A,z,y⟩;refine ⟨?_,z,fun t x=>?_⟩
   ·refine Eq.trans D ?_;simp only;rw [Ai j (by omega)];exact A
   ·rw [y,B,aN,aA h,zwd u];constructor
    ·rintro ((h|⟨h1,b⟩)|⟨h1,e,b,g⟩)
     ·exact aG h
     ·exact aH ⟨h1,_,mem_cons_self,b⟩
     ·exact aH ⟨h1,e,aK _ b,g⟩
    ·rintro (h|⟨h1,e,b,g⟩)
     ·exact aG (aG h)
     ·rcases aR.1 b with b|b
      ·subst b;exact aG (aH ⟨h1,g⟩)
      ·exact aH ⟨h1,e,b,g⟩
  ·rw [if_neg (by omega)];refine ⟨os,rfl,q,fun t x=>?_⟩;rw [aJ (by omega)];simp
theorem y60 (z:n<=1000000)(f:s<k)(g:s<m0n)(es:List Exn)(m:es.length<=2000000)(u:∀ e∈es,WfE e)(w:OsOk k os):∃ os',Yt N0 (s:Int) (es.map Ay) m0n (ixs k n,os)=some (m0n,(ixs k n,os'))/\Xz N0 (s:Int) m0n (ixs k n,os) (es.map Ay)=some (m0n,(ixs k n,os'))/\OsOk k os'/\∀ t x,hasO os' t x ↔ hasO os t x\/(t=s/\∃ e∈es,OccV x e):=by
 obtain ⟨d,C,r,q⟩:=zpt z f g es m u (fun y=>some (m0n,y)) N0 0 os (aE _) (by unfold N0;omega) w;obtain ⟨b,B,p,o⟩:=zkm z f g es m u (fun y=>some (m0n,y)) N0 0 os (aE _) (by unfold N0;omega) w;rw [aN] at q o;have e:b=d:=by
  apply aV
  ·rw [p.len,r.len]
  ·intro i h1 A;have E:=p.map _ (aC h1);have D:=r.map _ (aC A);have H:∀ x,has b[i] x ↔ has d[i] x:=fun x=>by
    have J:hasO b i x ↔ has b[i] x:=⟨fun ⟨l,G,F⟩=>by simp_all,fun h=>⟨_,aB h1,h⟩⟩;have I:hasO d i x ↔ has d[i] x:=⟨fun ⟨l,G,F⟩=>by simp_all,fun h=>⟨_,aB A,h⟩⟩;rw [<-J,<-I,o,q]
   exact y1i E D H
 subst e;exact ⟨b,C,B,p,o⟩
def OwnG (a:Aut)(t:Nat)(x:Int):Prop:=∃ b,a.fStates[t]? = some b/\∃ g∈b.fGuards,OccV x g.fCond
def OwnX (ed:Ed)(x:Int):Prop:=∃ e∈chE ed++[ed.fCond],OccV x e
def OwnV (a:Aut)(t:Nat)(x:Int):Prop:=OwnG a t x\/∃ ed∈a.fEdges,ed.fFrom=(t:Int)/\OwnX ed x
inductive Rd (a:Aut):Nat->Int->Prop
 |own (t:Nat) (x:Int) (h:OwnV a t x):Rd a t x
 |step (ed:Ed) (he:ed∈a.fEdges) (t s:Nat) (x:Int) (ht:ed.fFrom=(t:Int)) (hs:ed.fTo=(s:Int)) (h:Rd a s x):Rd a t x
theorem zy6 {x:Int}{e:Exn}(h:OccV x e):0<=x/\x<16:=by obtain ⟨i,hi,e,_⟩:=h;omega
variable {t:Nat}
theorem zkv {x:Int}(h:OwnV a t x):0<=x/\x<16:=by
 rcases h with ⟨_,_,_,_,h⟩|⟨_,_,_,_,_,h⟩<;>exact zy6 h
theorem y3u {x:Int}(h:Rd a t x):0<=x/\x<16:=by
 induction h with
 |own t x h=>exact zkv h
 |step _ _ _ _ _ _ _ _ ih=>exact ih
theorem y4v {x:Int}:hasO (os++[[]]) t x ↔ hasO os t x:=by
 unfold hasO;constructor
 ·rintro ⟨l,b,d⟩;by_cases h:t<os.length
  ·grind
  ·rw [getElem?_append_right (by omega)] at b;obtain ⟨_,e⟩:=List.getElem?_eq_some_iff.1 b;have:l=[]:=by rw [<-e];simp
   subst this;simp [has] at d
 grind
theorem zqe:F0 []:=⟨by simp [Srt],by simp⟩
theorem OsOk.push (h:OsOk k os):OsOk (k+1) (os++[[]]):=⟨by rw [length_append,h.len];rfl,fun l b=>(mem_append.1 b).elim (h.map l) (fun b=>by rw [mem_singleton.1 b];exact zqe)⟩
theorem y0h (r:n<=1000000)(f:s<k)(p:k<=n)(i:Int×Nat×Ars Mp)(d:i.1=(s:Int))(b:Stt)(D:b.fGuards.length<=2000000)(B:∀ g∈b.fGuards,WfE g.fCond)(K:Nat->Ars Mp->Option (List Mp)) :
  ∀ (m j:Nat) (os:List Mp),j<=b.fGuards.length->b.fGuards.length<m+j->OsOk k os->∃ os',Po N0 a i b K m ((j:Int),n,(ixs k n,os))=K n (ixs k n,os')/\OsOk k os'/\∀ t x,hasO os' t x ↔ hasO os t x\/(t=s/\∃ g∈b.fGuards.drop j,OccV x g.fCond)
 |0,j,os,h1,E,_=>by omega
 |m+1,j,os,h1,E,C=>by
  unfold Po;simp only [aD,A4];by_cases h:j<b.fGuards.length
  ·obtain ⟨o,q,_,A,z⟩:=y60 r f (by omega:s<n) [b.fGuards[j].fCond] (by simp) (fun e F=>by simp_all) C;simp only [map_cons,map_nil] at q;rw [if_pos (by omega),Ae h,d,q,Cn,Ai j (by omega)];obtain ⟨os',y,w,u⟩:=y0h r f p i d b D B K m (j+1) o (by omega) (by omega) A;refine ⟨os',y,w,fun t x=>?_⟩;rw [u,z,aA h];grind
  grind
theorem y0m (p:WfA a)(C:a.fStates.length<=1000)(K:Nat->Ars Mp->Option (List Mp)) :
  ∀ (m k:Nat) (os:List Mp),k<=a.fStates.length->a.fStates.length<m+k->OsOk k os->∃ os',L2 N0 a K m ((k:Int),a.fStates.length,(ixs k a.fStates.length,os))=K a.fStates.length (ixs a.fStates.length a.fStates.length,os')/\OsOk a.fStates.length os'/\∀ t x,hasO os' t x ↔ hasO os t x\/(k<=t/\OwnG a t x)
 |0,k,os,h1,b,_=>by omega
 |m+1,k,os,h1,b,g=>by
  unfold L2;simp only [aD,A4];by_cases h:k<a.fStates.length
  ·rw [if_pos (by omega),Ae h,Ep (by omega) (by rw [aF];exact h),aF,y6m h g.len];have f:=p.st _ (aC h);obtain ⟨d,z,y,w⟩:=y0h (a:=a) (n:=a.fStates.length) (by omega) (Nat.lt_succ_self k) h ((k:Int),a.fStates.length,(ixs k a.fStates.length,os)) rfl a.fStates[k] (by omega) f.2 (fun k6_5_0y0 k6_5_0y1=>(L2 N0 a K m) ((aO .i64 (((k:Int),a.fStates.length,(ixs k a.fStates.length,os)).1+1)),k6_5_0y0,k6_5_0y1)) N0 0 (os++[[]]) (aE _) (by unfold N0;omega) g.push;refine Exists.imp (fun os'=>?_) (y0m p C K m (k+1) d (by omega) (by omega) y);rintro ⟨u,r,q⟩;refine ⟨?_,r,fun t x=>?_⟩
   ·refine Eq.trans z ?_;simp only;rw [Ai k (by omega)];exact u
   ·rw [q,w,y4v,aN];constructor
    ·rintro ((i|⟨h1,b⟩)|⟨h1,b⟩)
     ·exact aG i
     ·subst h1;exact aH ⟨Nat.le_refl _,_,aB h,b⟩
     ·exact aH ⟨by omega,b⟩
    ·rintro (i|⟨D,o,B,A⟩)
     ·exact aG (aG i)
     ·by_cases e:t=k
      ·simp_all
      ·exact aH ⟨by omega,o,B,A⟩
  ·have:k=a.fStates.length:=by omega
   subst this;rw [if_neg (by omega)];refine ⟨os,rfl,g,fun t x=>⟨aG,fun h=>h.elim id (fun ⟨h1,o,b,_⟩=>?_)⟩⟩;simp_all
def Cr (bk:List (List Int))(ed:Ed):List (List Int):=if 0<=ed.fTo then bk.set ed.fTo.toNat (bk.getD ed.fTo.toNat []++[ed.fFrom]) else bk
theorem zs7 (bk:List (List Int))(ed:Ed):(Cr bk ed).length=bk.length:=by unfold Cr;split<;>simp
variable {bk:List (List Int)}
theorem y2z {ed:Ed}{y:Int}(b:t<bk.length):y∈(Cr bk ed).getD t [] ↔ y∈bk.getD t []\/(ed.fTo=(t:Int)/\y=ed.fFrom):=by
 unfold Cr;grind
theorem zl2:∀ (l:List Ed) (bk:List (List Int)),(l.foldl Cr bk).length=bk.length
 |[],_=>rfl
 |x::r,bk=>by rw [aT,zl2 r,zs7]
theorem zl1 {y:Int}:∀ (l:List Ed) (bk:List (List Int)),t<bk.length->(y∈(l.foldl Cr bk).getD t [] ↔ y∈bk.getD t []\/∃ ed∈l,ed.fTo=(t:Int)/\y=ed.fFrom)
 |[],bk,_=>by simp
 |x::r,bk,h=>by
  rw [aT,zl1 r _ (by rw [zs7];exact h),y2z h];grind
theorem y30 {ed:Ed}(h:∀ q∈bk,q.length<=k):∀ q∈Cr bk ed,q.length<=k+1:=fun q b=>by
 unfold Cr at b;grind
theorem zos (h:WfX x):x.fChecks=(chE x).map Ay/\(∀ e∈chE x,WfE e):=by
 obtain ⟨ys,b,d⟩:=h.checks;rw [y2o b];exact ⟨b,d⟩
theorem y0l (D:WfA a)(F:AOk a)(A:∀ x∈a.fEdges,x.fChecks.length<=1100000)(K:Nat->Ars Mp->List (List Int)->Option (List Mp)) :
  ∀ (m j:Nat) (bk:List (List Int)) (os:List Mp),j<=a.fEdges.length->a.fEdges.length<m+j->OsOk a.fStates.length os->bk.length=a.fStates.length->(∀ q∈bk,q.length<=j) ->
   ∃ os',Gs N0 a a.fStates.length K m ((j:Int),a.fStates.length,bk,(ixs a.fStates.length a.fStates.length,os))=K a.fStates.length (ixs a.fStates.length a.fStates.length,os') ((a.fEdges.drop j).foldl Cr bk)/\OsOk a.fStates.length os'/\∀ t x,hasO os' t x ↔ hasO os t x\/∃ ed∈a.fEdges.drop j,ed.fFrom=(t:Int)/\OwnX ed x
 |0,j,bk,os,h1,C,_,_,_=>by omega
 |m+1,j,bk,os,h1,C,S,W,B=>by
  have U:=D.le;have T:=F.st;unfold Gs;simp only [aD,A4];by_cases h:j<a.fEdges.length
  ·have d:=aC h;have i:=F.ed _ d;have r:=D.ed _ d;obtain ⟨J,Y⟩:=zos r;have z:=A _ d;have I:(chE a.fEdges[j]).length<=1100000:=by rw [J,aD] at z;exact z
   obtain ⟨f,E⟩:∃ f:Nat,a.fEdges[j].fFrom=(f:Int):=⟨a.fEdges[j].fFrom.toNat,by have:=i.frm;omega⟩;have u:f<a.fStates.length:=by have:=i.frm;omega
   obtain ⟨p,_,H,P,O⟩:=y60 (n:=a.fStates.length) (m0n:=a.fStates.length) (by omega) u u (chE a.fEdges[j]++[a.fEdges[j].fCond]) (by simp;omega) (fun e w=>by
    rcases mem_append.1 w with w|w
    ·exact Y e w
    ·rw [mem_singleton.1 w];exact r.cond) S
   have y:C4 N0 a.fEdges[j].fChecks=some a.fEdges[j].fChecks:=by unfold C4;rw [if_pos (by omega)]
   rw [if_pos (by omega),Ae h,y,Nd,C1 (by simp;omega) (by omega)];rw [map_append,<-J,map_cons,map_nil] at H;rw [E,H,Cn];simp only [Ar];have iter:∀ b,b.length=a.fStates.length->(∀ q∈b,q.length<=j+1)->b=Cr bk a.fEdges[j]->∃ os',Gs N0 a a.fStates.length K m ((aO .i64 ((j:Int)+1)),a.fStates.length,b,(ixs a.fStates.length a.fStates.length,p))=K a.fStates.length (ixs a.fStates.length a.fStates.length,os') ((a.fEdges.drop j).foldl Cr bk)/\OsOk a.fStates.length os'/\∀ t x,hasO os' t x ↔ hasO os t x\/∃ ed∈a.fEdges.drop j,ed.fFrom=(t:Int)/\OwnX ed x:=fun b b1 b2 Z=>by
    obtain ⟨os',N,M,L⟩:=y0l D F A K m (j+1) b p (by omega) (by omega) P b1 b2;rw [Ai j (by omega)];refine ⟨os',?_,M,fun t x=>?_⟩
    ·rw [N,aA h,aT,Z]
    ·rw [L,O,aA h];simp only [aR];constructor
     ·rintro ((G|⟨h1,C⟩)|⟨ed,h1,C⟩)
      ·exact aG G
      ·exact aH ⟨_,aG rfl,by rw [h1];exact E,C⟩
      grind
     ·rintro (G|⟨ed,h1|h1,C,X⟩)
      ·exact aG (aG G)
      ·subst h1;exact aG (aH ⟨by omega,X⟩)
      grind
   by_cases o:0<=a.fEdges[j].fTo
   ·rw [if_pos o];have ht:=i.tgt;have g:a.fEdges[j].fTo.toNat<bk.length:=by omega
    have V:(bk.getD a.fEdges[j].fTo.toNat []).length<=j:=by
     rw [aL,aB g];exact B _ (aC g)
    rw [Ep o (by omega),y16 g,C1 (by rw [length_singleton];omega) (by omega),Ep o (by omega),y19 g];have e:bk.set a.fEdges[j].fTo.toNat (bk.getD a.fEdges[j].fTo.toNat []++[(f:Int)])=Cr bk a.fEdges[j]:=by unfold Cr;rw [if_pos o,E]
    grind
   ·rw [if_neg o];exact iter bk W (fun q Q=>by have:=B q Q;omega) (by unfold Cr;rw [if_neg o])
  grind
theorem y0k (o:n<=1000)(b g:Nat)(f:Ars Mp)(e:List (List Int))(K:Nat->Ars Mp->Option (List Mp)) :
  ∀ (m k:Nat) (os:List Mp),k<=n->n<m+k->os.length=k->I6 N0 b g f e n K m ((k:Int),(ixs k n,os))=K n (ixs n n,os++aM (n-k) [])
 |0,k,os,h1,p,_=>by omega
 |m+1,k,os,h1,p,i=>by
  unfold I6;simp only [A4];by_cases h:k<n
  ·rw [if_pos (by omega),Ep (by omega) (by rw [aF];exact h),aF,y6m h i,Ai k (by omega)];rw [y0k o b g f e K m (k+1) (os++[[]]) (by omega) (by omega) (by rw [length_append,i];rfl)];obtain ⟨d,q⟩:∃ d,n-k=d+1:=⟨n-k-1,by omega⟩;grind
  ·have:k=n:=by omega
   simp_all
open Classical in
noncomputable def unm (os:List Mp)(v:Int)(n:Nat):Nat:=(aQ n).countP (fun t=>decide (¬hasO os t v))
theorem zi2 {α:Type}{p q:α->Bool}:∀ {l:List α},(∀ x∈l,q x=true->p x=true)->(∃ x∈l,p x=true/\q x=false)->l.countP q<l.countP p
 |[],_,h=>by simp_all
 |y::r,h1,d=>by
  have hm:r.countP q<=r.countP p:=bA (fun x b=>h1 x (aK _ b));obtain ⟨x,b,px,qx⟩:=d;rw [countP_cons,countP_cons];rcases aR.1 b with e|e
  ·grind
  ·have f:=zi2 (l:=r) (fun x b=>h1 x (aK _ b)) ⟨x,e,px,qx⟩;grind
variable {os':List Mp}
theorem y96 (h:∀ t,hasO os t v->hasO os' t v):unm os' v n<=unm os v n:=by
 unfold unm;refine bA (fun t _ b=>?_);grind
theorem y95 (h:∀ t,hasO os t v->hasO os' t v)(b:s<n)(h1:¬hasO os s v)(d:hasO os' s v):unm os' v n<unm os v n:=by
 unfold unm;refine zi2 (fun t _ e=>?_) ⟨s,aS.2 b,by simpa using h1,by simpa using d⟩;grind
theorem yb4 (os:List Mp)(v:Int)(n:Nat):unm os v n<=n:=by
 unfold unm;exact aW (countP_le_length) (by simp)
inductive Bk (bk:List (List Int)):Nat->Nat->Prop
 |refl (s:Nat):Bk bk s s
 |step (t y s:Nat) (h:(y:Int)∈bk.getD s []) (ht:Bk bk t y):Bk bk t s
structure BkOk (n:Nat) (bk:List (List Int)):Prop where
 len:bk.length=n
 big:∀ q∈bk,q.length<=1100000
 mem:∀ q∈bk,∀ y∈q,0<=y/\y<(n:Int)
structure Sp (n:Nat) (bk:List (List Int)) (v:Int) (os:List Mp) (ss:Nat->Prop) (os':List Mp):Prop where
 ok:OsOk n os'
 mono:∀ t x,hasO os t x->hasO os' t x
 snd:∀ t x,hasO os' t x->hasO os t x\/(x=v/\∃ s,ss s/\Bk bk t s)
 mark:∀ s,ss s->hasO os' s v
 clo:∀ t,hasO os' t v->hasO os t v\/∀ y:Nat,(y:Int)∈bk.getD t []->hasO os' y v
def Spr (n:Nat)(bk:List (List Int))(v:Int)(u:Nat):Prop:=∀ (os:List Mp) (s:Nat),s<n->OsOk n os->unm os v n<=u->∀ f,u+2000000<f->∃ os',Ig f (s:Int) v n (ixs n n,os) bk=some (n,(ixs n n,os'),bk)/\Sp n bk v os (fun x=>x=s) os'
theorem zvk (I:BkOk n bk){u:Nat}(IH:Spr n bk v u)(f:Nat)(F:u+2000000<f)(d:List Int)(p:∀ y∈d,0<=y/\y<(n:Int))(B:d.length<=1100000)(K:Nat->Ars Mp->List (List Int)->Option (Nat×Ars Mp×List (List Int))) :
  ∀ (m j:Nat) (os:List Mp),j<=d.length->d.length<m+j->OsOk n os->unm os v n<=u->∃ os',Ot f (Ig f) v d K m ((j:Int),n,bk,(ixs n n,os))=K n (ixs n n,os') bk/\Sp n bk v os (fun x=>(x:Int)∈d.drop j) os'
 |0,j,os,h1,J,_,_=>by omega
 |m+1,j,os,h1,J,E,D=>by
  unfold Ot;simp only [aD,A4];by_cases h:j<d.length
  ·obtain ⟨y,w⟩:∃ y:Nat,d[j]=(y:Int):=⟨d[j].toNat,by have:=p _ (aC h);omega⟩;have A:y<n:=by have:=p _ (aC h);omega
   obtain ⟨z,H,r⟩:=IH os y A E D f F;rw [if_pos (by omega),Ae h,w,H,Cn,Ai j (by omega)];obtain ⟨os',G,i⟩:=zvk I IH f F d p B K m (j+1) z (by omega) (by omega) r.ok (aW (y96 (fun t g=>r.mono t v g)) D);refine ⟨os',G,⟨i.ok,fun t x b=>i.mono t x (r.mono t x b),fun t x b=>?_,fun s o=>?_,fun t g=>?_⟩⟩
   ·rcases i.snd t x b with b|⟨e,s,o,q⟩
    ·rcases r.snd t x b with b|⟨e,s,o,q⟩
     ·exact aG b
     ·subst o;exact aH ⟨e,s,by rw [aA h,w];simp,q⟩
    ·exact aH ⟨e,s,by rw [aA h];exact aK _ o,q⟩
   ·rw [aA h,w] at o;rcases aR.1 o with e|e
    ·have:s=y:=by omega
     exact i.mono s v (r.mark s this)
    ·exact i.mark s e
   ·rcases i.clo t g with g|C
    ·rcases r.clo t g with g|C
     ·exact aG g
     ·exact aH (fun y w=>i.mono y v (C y w))
    ·exact aH C
  ·rw [if_neg (by omega)];refine ⟨os,rfl,⟨E,fun t x b=>b,fun t x b=>aG b,fun s o=>?_,fun t g=>aG g⟩⟩;grind
theorem ybg (r:BkOk n bk)(K:0<=v/\v<16)(T:n<=1000):∀ u,Spr n bk v u:=by
 intro u
 induction u using Nat.strongRecOn with
 |ind u IH =>
  intro os s o C S f U;obtain ⟨A,rfl⟩:∃ A,f=A + 1:=⟨f-1,by omega⟩;obtain ⟨l,z,hm⟩:=C.at o;simp only [Ig];rw [Ep (by omega) (by rw [aF];exact o),aF,zxg o,yb1 z];have p:hasO os s v ↔ has l v:=⟨fun ⟨Q,h1,V⟩=>by simp_all,fun h=>⟨l,z,h⟩⟩;by_cases i:has l v
  ·rw [(ztw hm v).2 i,Au];exact ⟨os,rfl,⟨C,fun t x b=>b,fun t x b=>aG b,fun x b=>by rw [b];exact p.2 i,fun t g=>aG g⟩⟩
  ·have D:(mlk l v).getD false=false:=by
    cases h:(mlk l v).getD false with
    |false=>rfl
    |true=>exact absurd ((ztw hm v).1 h) i
   obtain ⟨J,o2⟩:=C.put z K;rw [D,Aw,Ep (by omega) (by rw [aF];exact o),zxg o,y2v z hm.srt];have d:s<bk.length:=by rw [r.len];exact o
   rw [Ae d];have M:unm (os.set s (sput l v true)) v n<unm os v n:=y95 (fun t g=>(o2 t v).2 (aG g)) o (fun h=>i (p.1 h)) ((o2 s v).2 (aH ⟨rfl,rfl⟩));have q:bk.getD s []=bk[s]:=by rw [aL,aB d];rfl
   obtain ⟨B,L⟩:∃ B,u=B + 1:=⟨u-1,by omega⟩;obtain ⟨os',I,m⟩:=zvk r (IH B (by omega)) A (by omega) bk[s] (r.mem _ (aC d)) (r.big _ (aC d)) (fun H G F=>some (H,G,F)) A 0 _ (aE _) (by have:=r.big _ (aC d);omega) J (by omega);rw [aN] at m;refine ⟨os',I,⟨m.ok,fun t x b=>m.mono t x ((o2 t x).2 (aG b)),fun t x b=>?_,fun x b=>?_,fun t g=>?_⟩⟩
   ·rcases m.snd t x b with b|⟨e,y,w,E⟩
    ·rcases (o2 t x).1 b with b|⟨P,O⟩
     ·exact aG b
     ·subst P;exact aH ⟨O,_,rfl,.refl _⟩
    ·refine aH ⟨e,s,rfl,.step t y s (by rw [q];exact w) E⟩
   ·subst b;exact m.mono _ v ((o2 _ v).2 (aH ⟨rfl,rfl⟩))
   ·rcases m.clo t g with g|N
    ·rcases (o2 t v).1 g with g|⟨e,_⟩
     ·exact aG g
     ·subst e;exact aH (fun y w=>m.mark y (by rw [q] at w;exact w))
    ·exact aH N
section
variable {β α:Type}
theorem y7s (a b:Option β):nxt ([]:List α) a b=a:=by unfold nxt;rfl
theorem y4p (x:α)(l:List α)(a b:Option β):nxt (x::l) a b=b:=by unfold nxt;rfl
end
structure Mk (a:Aut) (bk:List (List Int)) (os:List Mp):Prop where
 ok:OsOk a.fStates.length os
 snd:∀ t x,hasO os t x->Rd a t x
 clo:∀ t x,hasO os t x->∀ y:Nat,(y:Int)∈bk.getD t []->hasO os y x
structure BkA (a:Aut) (bk:List (List Int)):Prop where
 ok:BkOk a.fStates.length bk
 mem:∀ (t y:Nat),t<a.fStates.length->((y:Int)∈bk.getD t [] ↔ ∃ ed∈a.fEdges,ed.fTo=(t:Int)/\ed.fFrom=(y:Int))
theorem yc1 (f:BkA a bk)(h:Bk bk t s){x:Int}(e:Rd a s x):Rd a t x:=by
 induction h with
 |refl=>exact e
 |step y s b _ g =>
  have d:s<a.fStates.length:=by
   by_cases d:s<a.fStates.length
   ·exact d
   ·rw [aL,getElem?_eq_none (by rw [f.ok.len];omega)] at b;simp at b
  obtain ⟨ed,h1,m,i⟩:=(f.mem s y d).1 b;exact g (.step ed h1 y s x i m e)
theorem Mk.spread (p:BkA a bk)(u:a.fStates.length<=1000)(h:Mk a bk os){i:Nat}(hi:i<a.fStates.length)(o:OwnV a i v):∃ os',Ig N0 (i:Int) v a.fStates.length (ixs a.fStates.length a.fStates.length,os) bk=some (a.fStates.length,(ixs a.fStates.length a.fStates.length,os'),bk)/\Mk a bk os'/\(∀ t x,hasO os t x->hasO os' t x)/\hasO os' i v:=by
 obtain ⟨os',q,b⟩:=ybg p.ok (zkv o) u a.fStates.length os i hi h.ok (yb4 _ _ _) N0 (by unfold N0;omega);refine ⟨os',q,⟨b.ok,fun t x f=>?_,fun t x f y g=>?_⟩,b.mono,b.mark i rfl⟩
 ·rcases b.snd t x f with f|⟨e,s,r,m⟩
  ·exact h.snd t x f
  ·subst r e;exact yc1 p m (.own _ _ o)
 ·rcases b.snd t x f with d|⟨e,_⟩
  ·exact b.mono y x (h.clo t x d y g)
  ·subst e;rcases b.clo t f with d|w
   ·exact b.mono y x (h.clo t x d y g)
   ·exact w y g
theorem y0i (A:BkA a bk)(y:a.fStates.length<=1000)(d:Ars Mp)(f:Int×Nat×List (List Int)×Ars Mp){i:Nat}(hi:i<a.fStates.length)(e:f.1=(i:Int))(K:Nat->Ars Mp->List (List Int)->Option (List Mp))(R:List Mp) :
  ∀ (m:Nat) (b:Mp) (os:List Mp),b.length<m->Mk a bk os->(∀ p∈b,OwnV a i p.1)->(∀ os',Mk a bk os'->(∀ t x,hasO os t x->hasO os' t x)->(∀ p∈b,hasO os' i p.1)->K a.fStates.length (ixs a.fStates.length a.fStates.length,os') bk=some R) ->
   Pp N0 d f K m (a.fStates.length,bk,b,(ixs a.fStates.length a.fStates.length,os))=some R
 |0,b,os,h1,_,_,_=>by omega
 |m+1,b,os,h1,H,u,I=>by
  unfold Pp;simp only;cases b with
  |nil =>
   rw [y7s];simp_all
  |cons p r =>
   rw [y4p];refine y44 (by simp) (fun j z=>?_);have h:=u _ (aC z);obtain ⟨g,F,E,D,L⟩:=H.spread A y hi h;rw [Ar,e,F,Cn];refine y0i A y d f hi e K R m _ g (by grind) E (fun q w=>u q (mem_of_mem_eraseIdx w)) (fun os' C B J=>?_);refine I os' C (fun t x G=>B t x (D t x G)) (fun q w=>?_);have o:=zc5 z;grind
theorem y0j (C:BkA a bk)(A:a.fStates.length<=1000)(own:List Mp)(w:own.length=a.fStates.length)(q:∀ l∈own,l.length<=1000)(f:∀ t x,hasO own t x->OwnV a t x)(d:Ars Mp)(B:aval d=own)(K:Nat->Ars Mp->Option (List Mp))(R:List Mp) :
  ∀ (m i:Nat) (os:List Mp),i<=a.fStates.length->a.fStates.length<m+i->Mk a bk os->(∀ os',Mk a bk os'->(∀ t x,hasO os t x->hasO os' t x)->(∀ t x,i<=t->hasO own t x->hasO os' t x)->K a.fStates.length (ixs a.fStates.length a.fStates.length,os')=some R) ->
   Gr N0 d K m ((i:Int),a.fStates.length,bk,(ixs a.fStates.length a.fStates.length,os))=some R
 |0,i,os,h1,M,_,_=>by omega
 |m+1,i,os,h1,M,z,D=>by
  unfold Gr;simp only [B,aD,A4];by_cases h:i<a.fStates.length
  ·have g:i<own.length:=by omega
   rw [if_pos (by omega),Ae g];have L:∀ p∈own[i],hasO own i p.1:=fun p o=>⟨_,aB g,aZ.2 ⟨p,o,rfl⟩⟩
   refine y0i C A d _ h rfl _ R N0 own[i] os (by grind) z (fun p o=>f _ _ (L p o)) (fun u I H G=>?_);rw [Ai i (by omega)];refine y0j C A own w q f d B K R m (i+1) u (by omega) (by omega) I (fun os' F y E=>?_);refine D os' F (fun t x b=>y t x (H t x b)) (fun t x J b=>?_);by_cases e:t=i
   ·subst e;obtain ⟨l,r,b⟩:=b;rw [aB g] at r;injection r with r;subst r
    obtain ⟨p,o,rfl⟩:=aZ.1 b;exact y _ _ (G p o)
   ·exact E t x (by omega) b
  ·rw [if_neg (by omega)];exact D os z (fun t x b=>b) (fun t x J b=>by
    obtain ⟨l,r,_⟩:=b;grind)
open Classical in
noncomputable def Be (a:Aut):List Mp:=(aQ a.fStates.length).map fun t=>((aQ 16).filter (fun i:Nat=>decide (Rd a t (i:Int)))).map (fun i:Nat=>((i:Int),true))
open Classical in
theorem zgo (a:Aut):OsOk a.fStates.length (Be a)/\∀ t x,hasO (Be a) t x ↔ t<a.fStates.length/\Rd a t x:=by
 unfold Be;refine ⟨⟨by simp,fun l d=>?_⟩,fun t x=>?_⟩
 ·obtain ⟨t,_,rfl⟩:=aZ.1 d;refine ⟨?_,fun p f=>?_⟩
  ·unfold Srt;rw [map_map,pairwise_map];refine Pairwise.imp (fun {a b} (h:a<b)=>?_) (pairwise_lt_range.filter _);simp_all
  grind
 ·unfold hasO has;constructor
  ·grind
  ·rintro ⟨h1,e⟩;refine ⟨_,by rw [aY,getElem?_range h1];rfl,?_⟩;rw [map_map];have g:=y3u e;refine aZ.2 ⟨x.toNat,bC.2 ⟨aS.2 (by omega),?_⟩,?_⟩;all_goals grind
theorem ya8 (h:OsOk n os)(d:OsOk n os')(g:∀ t x,hasO os t x ↔ hasO os' t x):os=os':=by
 apply aV
 ·rw [h.len,d.len]
 ·intro i h1 b;refine y1i (h.map _ (aC h1)) (d.map _ (aC b)) (fun x=>?_);have o:hasO os i x ↔ has os[i] x:=⟨fun ⟨l,f,e⟩=>by simp_all,fun h=>⟨_,aB h1,h⟩⟩;have m:hasO os' i x ↔ has os'[i] x:=⟨fun ⟨l,f,e⟩=>by simp_all,fun h=>⟨_,aB b,h⟩⟩;rw [<-o,<-m,g]
theorem F0.len (h:F0 l):l.length<=16:=by
 have s:Str cmpI (l.map (·.1)):=h.srt.imp (fun q=>(Xj _ _).2 q);have key:∀ (q:List Int) (c:Int),q.Pairwise (· < ·)->(∀ x∈q,c<=x/\x<16)->(q.length:Int)<=max 0 (16-c):=fun q=>by
  induction q with
  |nil=>intro c _ _;simp;omega
  |cons y r f =>
   intro c b g;have h1:=g y (by simp);obtain ⟨i,e⟩:=pairwise_cons.1 b;have:=f (y+1) e (fun x d=>by grind);grind
 have:=key (l.map (·.1)) 0 (show (l.map (·.1)).Pairwise (· < ·) from h.srt) (fun x d=>by
  obtain ⟨p,b,rfl⟩:=aZ.1 d;exact (h.all p b).2)
 grind
theorem zkk (D:WfA a)(z:AOk a)(G:∀ x∈a.fEdges,x.fChecks.length<=1100000):Ut N0 a=some (Be a):=by
 have P:=z.st;have Q:=D.le;unfold Ut;rw [aD,y66 (by omega),y6n,Ar,y1f];obtain ⟨own1,T,S,M⟩:=y0m D (by omega) (fun k1_0_0y0 k1_0_0y1=>mkn ((a.fStates.length:Nat):Int) 24 fun g =>
  nst 53 <| reg <| Gs N0 a g
   (fun k2_1_0y0 k2_1_0y1 k2_1_0y2=>mkm ((a.fStates.length:Nat):Int) 8 fun e =>
  are 92 <| reg <| I6 N0 g k2_1_0y0 k2_1_0y1 k2_1_0y2 e
   (fun k3_2_0y0 k3_2_0y1=>frr 53 <| reg <| frm 7021 <| reg <| Gr N0 k2_1_0y1
   (fun k4_3_0y0 k4_3_0y1=>frm 7092 <| reg <| some (aval k4_3_0y1)) N0 (0,k3_2_0y0,k2_1_0y2,k3_2_0y1)) N0 (0,(mkA Mp e))) N0 (0,k1_0_0y0,(aM (g) ([]:List Int)),k1_0_0y1)) N0 0 [] (aE _) (by unfold N0;omega) ⟨rfl,by simp⟩
 refine Eq.trans T ?_;rw [y1e (by omega) (by omega),aF,y17,Ar];obtain ⟨b,U,B,N⟩:=y0l D z G (fun k2_1_0y0 k2_1_0y1 k2_1_0y2=>mkm ((a.fStates.length:Nat):Int) 8 fun e =>
  are 92 <| reg <| I6 N0 a.fStates.length k2_1_0y0 k2_1_0y1 k2_1_0y2 e
   (fun k3_2_0y0 k3_2_0y1=>frr 53 <| reg <| frm 7021 <| reg <| Gr N0 k2_1_0y1
   (fun k4_3_0y0 k4_3_0y1=>frm 7092 <| reg <| some (aval k4_3_0y1)) N0 (0,k3_2_0y0,k2_1_0y2,k3_2_0y1)) N0 (0,(mkA Mp e))) N0 0 (aM a.fStates.length []) own1 (aE _) (by unfold N0;omega) S (by simp) (fun q f=>by simp_all)
 refine Eq.trans U ?_;rw [y66 (by omega),y6n,Ar,y1f];have O:=y0k (n:=a.fStates.length) (by omega) a.fStates.length a.fStates.length (ixs a.fStates.length a.fStates.length,b) ((a.fEdges.drop 0).foldl Cr (aM a.fStates.length [])) (fun k3_2_0y0 k3_2_0y1=>frr 53 <| reg <| frm 7021 <| reg <| Gr N0 (ixs a.fStates.length a.fStates.length,b)
   (fun k4_3_0y0 k4_3_0y1=>frm 7092 <| reg <| some (aval k4_3_0y1)) N0 (0,k3_2_0y0,((a.fEdges.drop 0).foldl Cr (aM a.fStates.length [])),k3_2_0y1)) N0 0 [] (aE _) (by unfold N0;omega) rfl
 refine Eq.trans O ?_;simp only [y1r,Ar,yaf,nil_append,Nat.sub_zero];rw [aN];have p:∀ t x,hasO b t x ↔ OwnV a t x/\t<a.fStates.length:=fun t x=>by
  rw [N,M];constructor
  ·intro h;refine ⟨?_,?_⟩
   ·rcases h with (⟨l,d,_⟩|⟨_,h⟩)|⟨ed,h1,A,K⟩
    ·simp at d
    ·exact aG h
    ·exact aH ⟨ed,by simpa using h1,A,K⟩
   ·have:hasO b t x:=by rw [N,M];exact h
    obtain ⟨l,d,_⟩:=this;rw [<-B.len];grind
  ·rintro ⟨h|⟨ed,h1,A,K⟩,_⟩;all_goals grind
 have u:(a.fEdges.foldl Cr (aM a.fStates.length [])).length=a.fStates.length:=by rw [zl2];simp
 have H:∀ (t:Nat) (y:Int),t<a.fStates.length->(y∈(a.fEdges.foldl Cr (aM a.fStates.length [])).getD t [] ↔ ∃ ed∈a.fEdges,ed.fTo=(t:Int)/\y=ed.fFrom):=fun t y i=>by
  rw [zl1 _ _ (by simpa using i)];simp_all
 have w:BkA a (a.fEdges.foldl Cr (aM a.fStates.length [])):=by
  refine ⟨⟨u,fun q f=>?_,fun q f y W=>?_⟩,fun t y i=>?_⟩
  ·have big:∀ (l:List Ed) (bk:List (List Int)) (k:Nat),(∀ q∈bk,q.length<=k)->∀ q∈l.foldl Cr bk,q.length<=k+l.length:=fun l=>by
    induction l with
    |nil=>intro bk k h q f;exact h q f
    |cons x r C =>
     intro bk k h q f;have:=C (Cr bk x) (k+1) (y30 h) q f;grind
   have:=big a.fEdges (aM a.fStates.length []) 0 (fun q f=>by simp_all) q f;omega
  ·obtain ⟨t,i,rfl⟩:=mem_iff_getElem.1 f;have E:t<a.fStates.length:=by rw [u] at i;exact i
   obtain ⟨ed,h1,_,rfl⟩:=(H t y E).1 (by simp_all);exact (z.ed _ h1).frm
  ·grind
 have F:Mk a (a.fEdges.foldl Cr (aM a.fStates.length [])) (aM a.fStates.length []):=by
  have L:∀ t x,¬hasO (aM a.fStates.length ([]:Mp)) t x:=fun t x ⟨l,d,o⟩=>by
   rw [getElem?_replicate] at d;split at d
   ·injection d with d;subst d;simp [has] at o
   ·cases d
  exact ⟨⟨by simp,fun l d=>by rw [eq_of_mem_replicate d];exact zqe⟩,fun t x o=>absurd o (L t x),fun t x o=>absurd o (L t x)⟩
 refine y0j w (by omega) b B.len (fun l d=>by have:=(B.map l d).len;omega) (fun t x h=>((p t x).1 h).1) (ixs a.fStates.length a.fStates.length,b) (zs6 B.len) _ (Be a) N0 0 _ (aE _) (by unfold N0;omega) F (fun os' m _ V=>?_);rw [zs6 m.ok.len];congr 1;refine ya8 m.ok (zgo a).1 (fun t x=>?_);rw [(zgo a).2];constructor
 ·intro h;refine ⟨?_,m.snd t x h⟩;obtain ⟨l,d,_⟩:=h;rw [<-m.ok.len];grind
 ·rintro ⟨i,h⟩
  induction h with
  |own t x h=>grind
  |step ed J t s x h1 A h C =>
   have I:s<a.fStates.length:=by have:=(z.ed _ J).tgt;omega
   exact m.clo s x (C I) t ((w.mem s t I).2 ⟨ed,J,A,h1⟩)
def cvS (x y:Sta):Bool:=decide (x.fScope=y.fScope) && decide (y.fTime<=x.fTime)
def cvL:List Sta->List Sta->Bool |[],[]=>true |x::r,y::s=>cvS x y && cvL r s |_,_=>false
def rdB (m:Mp)(l:List Bd):List Bd:=l.filter (fun b=>(mlk m b.fVar).getD false)
def rdC (R:List Mp)(c:Cf):List Bd:=rdB (R.getD c.fState.toNat []) c.fBindings
def cov (R:List Mp)(c d:Cf):Bool:=decide (c.fState=d.fState) && (cvL c.fStarts d.fStarts && decide (rdC R c=rdC R d))
structure CS (R:List Mp) (c:Cf):Prop where
 st:0<=c.fState/\c.fState<(R.length:Int)
 lb:c.fBindings.length<=1000000
 ls:c.fStarts.length<=1000000
theorem y25:∀ {l m:List Sta},cvL l m=true->l.length=m.length
 |[],[],_=>rfl
 |x::r,y::s,h=>by
  unfold cvL at h;rw [aP] at h;simp [y25 h.2]
 |[],_::_,h=>by cases h
 |_::_,[],h=>by cases h
theorem zx0:∀ l:List Sta,cvL l l=true
 |[]=>rfl
 |x::r=>by unfold cvL cvS;simp [zx0 r]
theorem zqu:∀ {a b c:List Sta},cvL a b=true->cvL b c=true->cvL a c=true
 |[],[],[],_,_=>rfl
 |x::a,y::b,z::c,h1,d=>by
  unfold cvL at h1 d ⊢;rw [aP] at h1 d ⊢;refine ⟨?_,zqu h1.2 d.2⟩;have f:=h1.1;have e:=d.1;unfold cvS at f e ⊢;grind
 |[],_::_,_,h,_=>by cases h
 |_::_,[],_,h,_=>by cases h
 |_,[],_::_,_,h=>by cases h
 |_,_::_,[],_,h=>by cases h
theorem zms (R:List Mp)(c:Cf):cov R c c=true:=by unfold cov;simp [zx0]
variable {R:List Mp}
theorem Xd {a b:Cf}(h1:cov R a b=true)(d:cov R b c=true):cov R a c=true:=by
 unfold cov at h1 d ⊢;simp only [aP,decide_eq_true_eq] at h1 d ⊢;exact ⟨h1.1.trans d.1,zqu h1.2.1 d.2.1,h1.2.2.trans d.2.2⟩
theorem ybq (n:Nat)(x y:Sta):Ty n x y=some (cvS x y):=by
 unfold Ty cvS;simp only [B5,Ar,K3,A4];grind
theorem zw3 (a b:List Sta)(f:a.length=b.length)(g:a.length<=1000000):∀ (m k:Nat),k<=a.length->a.length<m+k->Qs N0 b a (some true) m (k:Int)=some (cvL (a.drop k) (b.drop k))
 |0,k,h1,i=>by omega
 |m+1,k,h1,i=>by
  unfold Qs;simp only [aD,A4];by_cases h:k<a.length
  ·have d:k<b.length:=by omega
   rw [if_pos (by omega),Ae h,Ae d,ybq,A0,aA h,aA d,Ai k (by omega)];have e:=zw3 a b f g m (k+1) (by omega) (by omega);unfold cvL;cases o:cvS a[k] b[k]
   ·rw [show (!false)=true from rfl,Au];simp
   ·rw [show (!true)=false from rfl,Aw,e];simp
  ·rw [if_neg (by omega),aJ (by omega),aJ (by omega)];rfl
theorem yar {a b:List Sta}(h:a.length≠b.length):cvL a b=false:=by
 cases d:cvL a b with
 |false=>rfl
 |true=>exact absurd (y25 d) h
theorem ybr (a b:List Sta)(d:a.length<=1000000):Vt N0 a b=some (cvL a b):=by
 unfold Vt;simp only [aD,Am,A4];by_cases h:a.length=b.length
 ·rw [if_pos (by omega)];have:=zw3 a b h d N0 0 (aE _) (by unfold N0;omega);simpa using this
 ·rw [if_neg (by omega),yar h]
theorem zm4 (m:Mp)(c:Cf)(b:c.fBindings.length<=1000000)(K:List Bd->Option (List Bd)):∀ (f k:Nat) (out:List Bd),k<=c.fBindings.length->c.fBindings.length<f+k->out.length<=k->M0 N0 m c K f ((k:Int),out)=K (out++rdB m (c.fBindings.drop k))
 |0,k,out,h1,d,_=>by omega
 |f+1,k,out,h1,d,g=>by
  unfold M0;simp only [aD,A4,Ar,zwm];by_cases h:k<c.fBindings.length
  ·rw [if_pos (by omega),Ae h,aA h,Ai k (by omega)];have iha:=zm4 m c b K f (k+1) (out++[c.fBindings[k]]) (by omega) (by omega) (by simp;omega);have ihb:=zm4 m c b K f (k+1) out (by omega) (by omega) (by omega);have e:(⟨c.fBindings[k].fVar,⟨c.fBindings[k].fRef.fTime,c.fBindings[k].fRef.fSource,c.fBindings[k].fRef.fSeq⟩⟩:Bd)=c.fBindings[k]:=rfl;simp only [e];unfold rdB;rw [filter_cons];cases hm:(mlk m c.fBindings[k].fVar).getD false
   ·rw [Aw,ihb];simp [rdB]
   ·rw [Au,C1 (by simp;omega) (by omega),iha];simp [rdB]
  ·rw [if_neg (by omega),aJ (by omega)];simp [rdB]
theorem y5y (m:Mp)(c:Cf)(b:c.fBindings.length<=1000000):Ru N0 c m=some (rdB m c.fBindings):=by
 unfold Ru;have:=zm4 m c b (fun y=>some y) N0 0 [] (aE _) (by unfold N0;omega) (by simp);simpa using this
theorem yb0 (x y:Bd):(decide (x.fVar=y.fVar) && (decide (x.fRef.fTime=y.fRef.fTime) && (decide (x.fRef.fSource=y.fRef.fSource) && (decide (x.fRef.fSeq=y.fRef.fSeq) && true))))=decide (x=y):=by
 obtain ⟨v,t,s,q⟩:=x;obtain ⟨v',b,d,e⟩:=y;simp
theorem zw1 (a b:List Bd)(f:a.length=b.length)(g:a.length<=1000000):∀ (m k:Nat),k<=a.length->a.length<m+k->Ro N0 b a (some true) m (k:Int)=some (decide (a.drop k=b.drop k))
 |0,k,h1,i=>by omega
 |m+1,k,h1,i=>by
  unfold Ro;simp only [aD,A4,yb0];by_cases h:k<a.length
  ·have d:k<b.length:=by omega
   rw [if_pos (by omega),Ae h,Ae d,aA h,aA d,Ai k (by omega)];have o:=zw1 a b f g m (k+1) (by omega) (by omega);rw [Am,A4];by_cases e:a[k]=b[k]
   ·have q:(a[k]::a.drop (k+1)=b[k]::b.drop (k+1)) ↔ a.drop (k+1)=b.drop (k+1):=⟨fun h=>(List.cons.inj h).2,fun h=>by rw [e,h]⟩;simp_all
   ·have q:¬(a[k]::a.drop (k+1)=b[k]::b.drop (k+1)):=fun h=>e (List.cons.inj h).1
    rw [if_neg e,decide_eq_false q]
  grind
theorem ya1 (a b:List Bd)(d:a.length<=1000000):S8 N0 a b=some (decide (a=b)):=by
 unfold S8;simp only [aD,Am,A4];by_cases h:a.length=b.length
 ·rw [if_pos (by omega)];have:=zw1 a b h d N0 0 (aE _) (by unfold N0;omega);simpa using this
 ·rw [if_neg (by omega)];have:a≠b:=fun e=>h (by rw [e])
  simp [this]
theorem y7j {d:Cf}(e:CS R c)(g:CS R d):Lf N0 c d R=some (cov R c d):=by
 have h1:=e.st;unfold Lf cov;simp only [B5,Ar,I0,A4,ybr _ _ e.ls,A0];by_cases h:c.fState=d.fState
 ·rw [if_pos h];obtain ⟨s,f⟩:∃ s:Nat,c.fState=(s:Int):=⟨c.fState.toNat,by omega⟩;have b:s<R.length:=by omega
  have m:R.getD s []=R[s]:=by rw [aL,aB b];rfl
  cases i:cvL c.fStarts d.fStarts
  ·rw [Aw];simp
  ·rw [Au,<-h,f,Ae b,y5y _ _ e.lb,A0,Ae b,y5y _ _ g.lb,A0,ya1 _ _ (aW (show (rdB R[s] c.fBindings).length<=c.fBindings.length from length_filter_le _ _) e.lb),A0];unfold rdC;grind
 ·rw [if_neg h];simp [h]
def cfD:Cf:=⟨0,[],[]⟩
def bet (R:List Mp)(l:List Cf)(k i:Nat):Bool:=decide (k≠i) && (cov R (l.getD k cfD) (l.getD i cfD) && (decide (k<i) || !cov R (l.getD i cfD) (l.getD k cfD)))
def Jw (R:List Mp)(l:List Cf)(i:Nat):Bool:=!(aQ l.length).any (fun k=>bet R l k i)
def redI (R:List Mp)(l:List Cf):List Nat:=(aQ l.length).filter (Jw R l)
def redP (R:List Mp)(l:List Cf):List Cf:=(redI R l).map (fun i=>l.getD i cfD)
theorem zmn {l:List Cf}(h:k<l.length):l.getD k cfD=l[k]:=by simp_all
theorem zvq {l:List Cf}(g:l.length<=1000000)(b:∀ c∈l,CS R c)(i:Nat)(hi:i<l.length)(out:List Cf)(K:Int->Int->List Bd->List Sta->Option (List Cf)) :
  ∀ (m k:Nat),k<=l.length->l.length<m+k->∃ y:Int,Fp N0 R l ((i:Int),out) l[i] K m (k:Int)=K y l[i].fState l[i].fBindings l[i].fStarts/\(y<0 ↔ ∀ j,k<=j->j<l.length->bet R l j i=false)
 |0,k,h1,r=>by omega
 |m+1,k,h1,r=>by
  unfold Fp;simp only [aD,A4,Am,B5,Ar,Gk];by_cases h:k<l.length
  ·rw [if_pos (by omega),Ae h];obtain ⟨y,w,u⟩:=zvq g b i hi out K m (k+1) (by omega) (by omega);rw [Ai k (by omega),y7j (b _ (aC h)) (b _ (aC hi)),y7j (b _ (aC hi)) (b _ (aC h)),A0,A0];have d:bet R l k i=(decide (k≠i) && (cov R l[k] l[i] && (decide (k<i) || !cov R l[i] l[k]))):=by unfold bet;rw [zmn h,zmn hi]
   have yes:bet R l k i=true->(((k:Nat):Int)<0 ↔ ∀ j,k<=j->j<l.length->bet R l j i=false):=fun q=>⟨fun f=>by omega,fun f=>by simp_all⟩
   have no:bet R l k i=false->(y<0 ↔ ∀ j,k<=j->j<l.length->bet R l j i=false):=fun q=>by
    grind
   by_cases e:k=i
   ·rw [if_pos (by omega),Aw];grind
   ·rw [if_neg (by omega)];cases p:cov R l[k] l[i]
    ·rw [Aw,Aw];grind
    ·rw [Au];by_cases z:k<i
     ·rw [if_pos (by omega),Au];grind
     ·rw [if_neg (by omega)];cases o:cov R l[i] l[k]
      ·simp only [Aw];grind
      ·simp only [Au];grind
  ·rw [if_neg (by omega)];grind
theorem zm3 {l:List Cf}(f:l.length<=1000000)(e:∀ c∈l,CS R c)(K:List Cf->Option (List Cf)) :
  ∀ (m i:Nat) (out:List Cf),i<=l.length->l.length<m+i->out.length<=i->Gj N0 R l K m ((i:Int),out)=K (out++(((aQ l.length).drop i).filter (Jw R l)).map (fun i=>l.getD i cfD))
 |0,i,out,h1,w,_=>by omega
 |m+1,i,out,h1,w,A=>by
  unfold Gj;simp only [aD,A4,Ar];by_cases h:i<l.length
  ·rw [if_pos (by omega),Ae h];obtain ⟨y,r,q⟩:=zvq f e i h out (fun k2_1_0y0 k2_1_0y1 k2_1_0y2 k2_1_0y3=>if k2_1_0y0<0 then (app out ([⟨k2_1_0y1,k2_1_0y2,k2_1_0y3⟩]) 56 fun d=>(Gj N0 R l K m) ((aO .i64 ((i:Int)+1)),d)) else (Gj N0 R l K m) ((aO .i64 ((i:Int)+1)),out)) N0 0 (aE _) (by unfold N0;omega);refine Eq.trans r ?_;have u:(aQ l.length).drop i=i::(aQ l.length).drop (i+1):=by
    rw [aA (by simpa using h)];simp
   rw [u,filter_cons,Ai i (by omega)];have o:Jw R l i=true ↔ y<0:=by
    rw [q];unfold Jw;rw [aX,any_eq_false];exact ⟨fun g j _ p=>by simp_all,fun g j p=>by rw [g j (aE _) (aS.1 p)];simp⟩
   have z:(⟨l[i].fState,l[i].fBindings,l[i].fStarts⟩:Cf)=l[i]:=rfl;by_cases b:y<0
   ·rw [if_pos b,if_pos (o.2 b),z,C1 (by simp;omega) (by omega),zm3 f e K m (i+1) _ (by omega) (by omega) (by simp;omega),map_cons,zmn h];simp
   ·have:¬Jw R l i=true:=fun h=>b (o.1 h)
    rw [if_neg b,if_neg this,zm3 f e K m (i+1) _ (by omega) (by omega) (by omega)]
  ·rw [if_neg (by omega),aJ (by simp;omega)];simp
theorem ybi {l:List Cf}(d:l.length<=1000000)(b:∀ c∈l,CS R c):Ul N0 l R=some (redP R l):=by
 unfold Ul;have:=zm3 d b (fun y=>some y) N0 0 [] (aE _) (by unfold N0;omega) (by simp);simpa [redP,redI] using this
theorem zvc (R:List Mp)(l:List Cf):(redP R l).Sublist l:=by
 have h:((aQ l.length).map (fun i=>l.getD i cfD))=l:=by
  apply aV
  ·simp
  ·simp_all
 unfold redP redI;conv=>rhs;rw [<-h]
 exact filter_sublist.map _
theorem y8t (R:List Mp)(l:List Cf)(k:Nat):bet R l k k=false:=by unfold bet;simp
theorem y2s {l:List Cf}{i:Nat}(h1:bet R l k i=true)(d:bet R l i j=true):bet R l k j=true:=by
 unfold bet at *;simp only [aP,Bool.or_eq_true,decide_eq_true_eq,aX] at h1 d ⊢;obtain ⟨q,f,p⟩:=h1;obtain ⟨o,e,m⟩:=d;have c:=Xd f e;by_cases b:cov R (l.getD j cfD) (l.getD k cfD)=true
 ·have h:cov R (l.getD i cfD) (l.getD k cfD)=true:=Xd e b;have g:cov R (l.getD j cfD) (l.getD i cfD)=true:=Xd b f;grind
 grind
theorem y6x (R:List Mp)(l:List Cf):∀ (u i:Nat),i<l.length->(aQ l.length).countP (fun k=>bet R l k i)<=u->∃ m∈redI R l,cov R (l.getD m cfD) (l.getD i cfD)=true:=by
 intro u
 induction u with
 |zero =>
  intro i hi o;refine ⟨i,bC.2 ⟨aS.2 hi,?_⟩,zms _ _⟩;unfold Jw;simp_all
 |succ u h =>
  intro i hi o;by_cases f:Jw R l i=true
  ·exact ⟨i,bC.2 ⟨aS.2 hi,f⟩,zms _ _⟩
  ·have e:(aQ l.length).any (fun k=>bet R l k i)=true:=by unfold Jw at f;simpa using f
   obtain ⟨k,b,g⟩:=any_eq_true.1 e;have d:=aS.1 b;have p:(aQ l.length).countP (fun j=>bet R l j k)<(aQ l.length).countP (fun j=>bet R l j i):=zi2 (fun j _ q=>y2s q g) ⟨k,b,g,y8t R l k⟩;obtain ⟨m,hm,r⟩:=h k d (by omega);refine ⟨m,hm,Xd r ?_⟩;unfold bet at g;simp_all
theorem y6y (R:List Mp){l:List Cf}{x:Cf}(d:x∈l):∃ y∈redP R l,cov R y x=true:=by
 obtain ⟨i,hi,rfl⟩:=mem_iff_getElem.1 d;obtain ⟨m,hm,b⟩:=y6x R l _ i hi (Nat.le_refl _);exact ⟨_,aZ.2 ⟨m,hm,rfl⟩,by rw [zmn hi] at b;exact b⟩
end Go.Proofs.YthbogefcfhmpgaaGreat
