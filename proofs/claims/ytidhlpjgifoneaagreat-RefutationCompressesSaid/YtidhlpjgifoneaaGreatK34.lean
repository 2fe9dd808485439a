/- Layer 25, plainly. -/
import Derived.Test.YtidhlpjgifoneaaGreatK33
set_option linter.unusedVariables false
set_option linter.unusedSimpArgs false
namespace Go.Proofs.YtidhlpjgifoneaaGreat
open Go.RowKit List
open List renaming length_map->aA,getElem?_eq_getElem->aB,getElem_mem->aD,drop_eq_getElem_cons->aE,drop_eq_nil_of_le->aJ,drop_zero->aK,mem_cons_of_mem->aL,foldl_cons->aN,getD_eq_getElem?_getD->aO,mem_cons->aQ
open Int renaming toNat_natCast->aC
open Or renaming inl->aF,inr->aG
open Nat renaming zero_le->aH
open IntKind renaming wrap->aM
open Bool renaming not_false->aP,not_true->aS
abbrev cf0:Cf:=⟨0,[],[]⟩
def hasI (l:List Int)(n:Int):Bool:=l.any fun y=>decide (n=y)
theorem zsh (n:Nat)(s:Int)(l:List Int)(b:l.length<=1100000):∀ (m k:Nat),k<=l.length->l.length<m+k->Qw n s l (some false) m (k:Int)=some (hasI (l.drop k) s)
 |0,k,h1,c=>by omega
 |m+1,k,h1,c=>by
  unfold Qw;simp only [aA,A5];by_cases h:k<l.length
  ·rw [if_pos (by omega),A9 h,B2 l k h,Ad k (by omega),zsh n s l b m (k+1) (by omega) (by omega)];unfold hasI;grind
  ·rw [if_neg (by omega),aJ (by omega)];rfl
theorem y8l (n:Nat)(s:Int)(l:List Int)(b:l.length<=1100000)(c:l.length<n):V6 n l s=some (hasI l s):=by
 have:=zsh n s l b n 0 (by omega) (by omega);unfold V6;simp_all
def Xd (a:Aut)(s:Int):List Gd:=match a.fStates[s.toNat]? with|some s=>s.fGuards|none=>[]
def chE (x:Ed):List Exn:=x.fChecks.filterMap C3
variable {x:Ed}
theorem zzd {ys:List Exn}(h:x.fChecks=ys.map Av):chE x=ys:=by
 unfold chE;rw [h,filterMap_map];have:(C3 ∘ Av)=some:=by funext y;exact N9 y
 rw [this,filterMap_some]
def ckP (x:Ed)(env:List (List Ev)):Bool:=(chE x).all (fun y=>trR env y (-1) ev0)
def gdP (a:Aut)(c:Cf)(x:Ed)(env:List (List Ev))(e:Ev):Bool:=(Xd a c.fState).any (fun g=>!hasI x.fInside g.fScope && vio env e g)
def stN (c:Cf)(x:Ed)(e:Ev):List Sta:=opL c.fStarts x.fOpens e.fTime
def bdN (c:Cf)(x:Ed)(e:Ev):List Bd:=c.fBindings++[⟨x.fVar,Bo e⟩]
def coP (a:Aut)(held:List Ev)(c:Cf)(x:Ed)(e:Ev):Option Cf :=
 if x.fType=e.fType/\gdP a c x (enH held c.fBindings) e=false/\trR (enH held c.fBindings) x.fCond x.fVar e=true/\x.fLimits.all (keP (stN c x e) e.fTime)=true/\ckP x (enH (e::held) (bdN c x e))=true then some ⟨x.fTo,bdN c x e,(stN c x e).filter (ncl x)⟩ else none
def rfC:Option Cf->Cf×Bool |some c=>(c,true) |none=>(cf0,false)
structure CB (held:List Ev) (a:Aut) (k:Nat) (c:Cf):Prop where
 st:0<=c.fState/\c.fState<a.fStates.length
 bd:BdOk held a.fVars c.fBindings
 ss:SS c.fStarts
 lb:c.fBindings.length<=k
 ls:c.fStarts.length<=100*k
structure CxA (a:Aut) (held:List Ev):Prop where
 wf:WfA a
 ok:AOk a
 lo:∀ x∈a.fEdges,x.fOpens.length<=100
 lh:held.length<=10000
variable {a:Aut}
theorem X5 {s:Int}(h:0<=s/\s<a.fStates.length):∃ b:Stt,a.fStates[s.toNat]? = some b/\b∈a.fStates/\Xd a s=b.fGuards:=by
 have:s.toNat<a.fStates.length:=by omega
 refine ⟨a.fStates[s.toNat],aB this,aD this,?_⟩;unfold Xd;rw [aB this]
variable {β:Type}
theorem zcz {α:Type}{l:List α}{n:Int}{x:α}(b:0<=n)(h:l[n.toNat]? = some x)(k:α->Option β):idx l n k=k x:=by
 unfold idx;rw [if_pos b,h]
variable {k:Nat}
theorem zqi {ys:List Exn}(h:x.fChecks=ys.map Av)(b:k<ys.length)(Q:Exn->Option β):idxD C3 x.fChecks (k:Int) Q=Q ys[k]:=by
 unfold idxD;rw [if_pos (by omega),h];simp [b,N9]
theorem zmh (e:Ev)(x:Ed)(c:Cf)(held:List Ev)(env:List (List Ev))(f:EvS env)(b:Stt)(i:b.fGuards.length<=1100000)(d:∀ g∈b.fGuards,WfE g.fCond)(hi:x.fInside.length<=1100000)(K:List (List Ev)->Option (Cf×Bool)):∀ (m k:Nat),k<=b.fGuards.length->b.fGuards.length<m+k->I1 N0 e x c held ⟨env⟩ b K m (k:Int)=if (b.fGuards.drop k).any (fun g=>!hasI x.fInside g.fScope && vio env e g)=true then some (cf0,false) else K env
 |0,k,h1,o=>by omega
 |m+1,k,h1,o=>by
  unfold I1;simp only [aA,A5,Ay,Al,Ke];by_cases h:k<b.fGuards.length
  ·rw [if_pos (by omega),A9 h,B2 _ k h,any_cons,y8l N0 _ _ hi (by unfold N0;omega),A3,Ad k (by omega),zmh e x c held env f b i d hi K m (k+1) (by omega) (by omega),A9 h,zwz f (d _ (aD h)),A3];cases hasI x.fInside b.fGuards[k].fScope with
   |true=>simp [Ap]
   |false =>
    simp only [aP,Ao,Bool.true_and];cases vio env e b.fGuards[k]<;>simp [Ao,Ap]
  grind
theorem zmg (e:Ev)(x:Ed)(c:Cf)(held:List Ev)(g:x.fOpens.length<=1100000)(K:List Sta->Option (Cf×Bool)):∀ (m k:Nat) (b:List Sta),k<=x.fOpens.length->x.fOpens.length<m+k->SS b->b.length+(x.fOpens.length-k)<=1100000->P2 N0 e x c held K m ((k:Int),b)=K ((x.fOpens.drop k).foldl (fun l s=>opS l s e.fTime) b)
 |0,k,b,h1,o,d,i=>by omega
 |m+1,k,b,h1,o,d,i=>by
  unfold P2;simp only [aA,A5];by_cases h:k<x.fOpens.length
  ·have f:=zqc b x.fOpens[k] e.fTime;rw [if_pos (by omega),A9 h,B2 _ k h,aN,zx3 N0 _ _ b d (by omega) (by unfold N0;omega),A3,Ad k (by omega)];exact zmg e x c held g K m (k+1) _ (by omega) (by omega) (zxu d _ _) (by omega)
  grind
theorem zmf (e:Ev)(x:Ed)(c:Cf)(held:List Ev)(d:x.fLimits.length<=1100000)(s:List Sta)(b:s.length<=1100000)(K:Option (Cf×Bool)):∀ (m k:Nat),k<=x.fLimits.length->x.fLimits.length<m+k->P1 N0 e x c held s K m (k:Int)=if (x.fLimits.drop k).all (keP s e.fTime)=true then K else some (cf0,false)
 |0,k,h1,f=>by omega
 |m+1,k,h1,f=>by
  unfold P1;simp only [aA,A5,Ah];by_cases h:k<x.fLimits.length
  ·rw [if_pos (by omega),A9 h,B2 _ k h,all_cons,y6r N0 _ _ s b (by unfold N0;omega),A3,Ad k (by omega),zmf e x c held d s b K m (k+1) (by omega) (by omega)];cases keP s e.fTime x.fLimits[k]<;>simp [Ao,Ap]
  grind
theorem zme (x:Ed)(s:List Sta)(bs:List Bd)(env:List (List Ev))(e:EvS env)(ys:List Exn)(b:x.fChecks=ys.map Av)(d:∀ y∈ys,WfE y)(f:ys.length<=1100000)(K:List Bd->Option (Cf×Bool)):∀ (m k:Nat),k<=ys.length->ys.length<m+k->P0 N0 x s bs ⟨env⟩ K m (k:Int)=if (ys.drop k).all (fun y=>trR env y (-1) ev0)=true then K bs else some (cf0,false)
 |0,k,h1,g=>by omega
 |m+1,k,h1,g=>by
  unfold P0;have c:x.fChecks.length=ys.length:=by rw [b,aA]
  simp only [aA,A5,Ah,c];by_cases h:k<ys.length
  ·rw [if_pos (by omega),zqi b h,B2 _ k h,all_cons,(Oi (fun v=>rfl:EvEq env env) e (d _ (aD h)) (-1) ev0).1,A3,Ad k (by omega),zme x s bs env e ys b d f K m (k+1) (by omega) (by omega)];cases trR env ys[k] (-1) ev0<;>simp [Ao,Ap]
  grind
theorem zmd (x:Ed)(bs:List Bd)(e:x.fCloses.length<=1100000)(K:List Sta->Option (Cf×Bool)):∀ (m k:Nat) (b:List Sta),k<=x.fCloses.length->x.fCloses.length<m+k->b.length<=1100000->Oz N0 x bs K m ((k:Int),b)=K ((x.fCloses.drop k).foldl clS b)
 |0,k,b,h1,f,c=>by omega
 |m+1,k,b,h1,f,c=>by
  unfold Oz;simp only [aA,A5];by_cases h:k<x.fCloses.length
  ·have d:=zza b x.fCloses[k];rw [if_pos (by omega),A9 h,B2 _ k h,aN,zsu N0 _ b c (by unfold N0;omega),A3,Ad k (by omega)];exact zmd x bs e K m (k+1) _ (by omega) (by omega) (by omega)
  grind
variable {held:List Ev}
theorem zut (b:CxA a held){c:Cf}(Y:k<=1000)(q:CB held a k c)(i:x∈a.fEdges)(e:Ev):Lg N0 a held c x e=some (rfC (coP a held c x e)):=by
 have P:=q.lb;have M:=q.ls;have N:=b.lo x i;have O:=b.lh;have wx:=b.wf.ed x i;have Q:=ziw e.fTime x.fOpens c.fStarts;obtain ⟨f,U,F,T⟩:=X5 q.st;obtain ⟨ys,B,z⟩:=wx.checks;have A:ys.length<=1100000:=by have:=wx.lc;rw [B,aA] at this;exact this
 have p:EvS (enH held c.fBindings):=Jv (by omega);have o:EvS (enH (e::held) (bdN c x e)):=Jv (by unfold bdN;simp;omega);unfold Lg;rw [zx5 N0 (by decide) held (by omega) c (by omega),A3,zcz q.st.1 U];have L:=zmh e x c held (enH held c.fBindings) p f (b.wf.st f F).1 (b.wf.st f F).2 wx.li (fun k1_0_0y=>jon (Ef N0 e x c held) <| reg <| cnd (!decide (x.fType=e.fType)) (Ef N0 e x c held true) <| bnd (Fx N0 x.fCond (⟨k1_0_0y⟩:Aq) x.fVar e) fun d=>Ef N0 e x c held !(d)) N0 0 (aH _) (by have:=(b.wf.st f F).1;unfold N0;omega);refine L.trans ?_;rw [aK];have C:gdP a c x (enH held c.fBindings) e=f.fGuards.any (fun g=>!hasI x.fInside g.fScope && vio (enH held c.fBindings) e g):=by unfold gdP;rw [T]
 rw [<-C];unfold coP;by_cases u:gdP a c x (enH held c.fBindings) e=true
 ·rw [if_pos u,if_neg (by rw [u];simp)];rfl
 have w:gdP a c x (enH held c.fBindings) e=false:=by simpa using u
 rw [if_neg u];simp only [Ay,Al,Ah,A5];have j3t:Ef N0 e x c held true=some (cf0,false):=by unfold Ef;rw [Ao]
 by_cases r:x.fType=e.fType;rotate_left
 ·rw [if_neg r,j3t,if_neg (fun h=>r h.1)];rfl
 rw [if_pos r,(Oi (fun v=>rfl:EvEq (enH held c.fBindings) (enH held c.fBindings)) p wx.cond x.fVar e).1,A3];cases X:trR (enH held c.fBindings) x.fCond x.fVar e with
 |false =>
  simp only [aP,j3t];rw [if_neg (by simp)];rfl
 |true =>
  simp only [aS];unfold Ef;rw [Ap];have m:(stN c x e).length<=1100000:=by unfold stN;omega
  have J:=fun K=>zmg e x c held wx.lo K N0 0 c.fStarts (aH _) (by have:=wx.lo;unfold N0;omega) q.ss (by omega)
  refine (J _).trans ?_;rw [aK];have D:x.fOpens.foldl (fun l s=>opS l s e.fTime) c.fStarts=stN c x e:=rfl;rw [D];have I:=fun K=>zmf e x c held wx.ll (stN c x e) m K N0 0 (aH _) (by have:=wx.ll;unfold N0;omega)
  refine (I _).trans ?_;rw [aK];cases W:x.fLimits.all (keP (stN c x e) e.fTime) with
  |false =>
   rw [if_neg (by simp),if_neg (by simp)];rfl
  |true =>
   rw [if_pos rfl,Bu (by simp;omega) (by omega),y45,A3];unfold bldS;simp only [];rw [Bu (by grind) (by omega),y34,Al];unfold bld;simp only [];rw [Bu (by grind) (by omega)];have S:([]++c.fBindings++[⟨x.fVar,⟨e.fTime,e.fSource,e.fSeq⟩⟩]:List Bd)=bdN c x e:=rfl;have R:([e]++held:List Ev)=e::held:=rfl;rw [S,R,zx5 N0 (by decide) (e::held) (by simp;omega) _ (by unfold bdN;simp;omega),A3];have H:=fun K=>zme x (stN c x e) (bdN c x e) (enH (e::held) (bdN c x e)) o ys B z A K N0 0 (aH _) (by unfold N0;omega)
   refine (H _).trans ?_;have E:ckP x (enH (e::held) (bdN c x e))=ys.all (fun y=>trR (enH (e::held) (bdN c x e)) y (-1) ev0):=by unfold ckP;rw [zzd B]
   rw [aK,<-E];cases V:ckP x (enH (e::held) (bdN c x e)) with
   |false =>
    rw [if_neg (by simp),if_neg (by simp)];rfl
   |true =>
    rw [if_pos rfl,if_pos ⟨r,w,by simp⟩];have G:=fun K=>zmd x (bdN c x e) wx.lcl K N0 0 (stN c x e) (aH _) (by have:=wx.lcl;unfold N0;omega) m
    refine (G _).trans ?_;rw [aK,y7t];rfl
theorem y1j {e:Ev}(c:∀ y∈held,Bo y=Bo e->y=e){r:Rf}(h:(lkH held r).isSome=true):lkH (e::held) r=lkH held r:=by
 obtain ⟨y,b⟩:=Option.isSome_iff_exists.1 h;obtain ⟨h1,d⟩:=zj3 b;have:lkH (e::held) r=if Bo e=r then some e else lkH held r:=by
  unfold lkH;rw [find?_cons];grind
 grind
theorem y5c (vs:List (List Ev))(i:Nat)(hi:i<vs.length)(q:List Ev)(v:Int):evs (vs.set i q) v=if v=(i:Int) then q else evs vs v:=by
 unfold evs;grind
variable {v:Int}
theorem y20 (o:AOk a){e:Ev}(f:∀ y∈held,Bo y=Bo e->y=e){l:List Bd}(i:BdOk held a.fVars l)(p:0<=v/\v<a.fVars):EvEq (enH (e::held) (l++[⟨v,Bo e⟩])) ((bndV held a.fVars.toNat l).set v.toNat ((bndV held a.fVars.toNat l).getD v.toNat []++[e])):=fun w=>by
 have d:=o.vars;have c:v.toNat<(bndV held a.fVars.toNat l).length:=by rw [O7];omega
 have m:(bndV held a.fVars.toNat l).getD v.toNat []=ev1 held l v:=by
  have:=Jr held a.fVars.toNat l v;unfold evs at this;rw [if_neg (by omega),O7,if_neg (by omega),if_pos (by omega)] at this;exact this
 have h1:ev1 (e::held) (l++[⟨v,Bo e⟩]) w=ev1 held l w++(if v=w then [e] else []):=by
  unfold ev1;rw [filterMap_append];congr 1
  ·have:∀ b∈l,(if b.fVar=w then lkH (e::held) b.fRef else none)=(if b.fVar=w then lkH held b.fRef else none):=fun b g=>by rw [y1j f (i b g).2]
   clear m
   induction l with
   |nil=>rfl
   |cons b l ih =>
    rw [filterMap_cons,filterMap_cons,this b (by simp),ih (fun b h=>i b (aL _ h)) (by simpa [O7] using c) (fun b h=>this b (aL _ h))]
  ·have:lkH (e::held) (Bo e)=some e:=by unfold lkH;rw [find?_cons];simp
   grind
 rw [y5c _ _ c,Jr,h1,m];by_cases q:v=w
 ·grind
 ·rw [if_neg q,append_nil,if_neg (show ¬w=((v.toNat:Nat):Int) by omega)];have:=zyt ⟨d.1,d.2⟩ i w;rw [Jr] at this;exact this
theorem y4g {a b:List (List Ev)}(c:EvEq a b)(f:EvS a){g:Gd}(d:WfE g.fCond)(x:Ed)(hi:x.fInside.length<=1100000)(e:Ev):Il N0 g x ⟨b⟩ e=some (!hasI x.fInside g.fScope && vio a e g):=by
 unfold Il;simp only [Ay,Al,Kj];rw [Zi N0 _ _ (by omega) (by unfold N0;omega),A3,Ah];have:(x.fInside.any fun y=>decide (g.fScope=y))=hasI x.fInside g.fScope:=rfl;rw [this,y2l c f d e,A3];cases hasI x.fInside g.fScope<;>simp [Ao,Ap]
theorem zss (e:Ev)(x:Ed)(c:Cf)(s:List Sta)(a b:List (List Ev))(d:EvEq a b)(o:EvS a)(ys:List Exn)(f:x.fChecks=ys.map Av)(i:∀ y∈ys,WfE y)(p:ys.length<=1100000)(K:List Sta->Option (Cf×Bool)):∀ (m k:Nat),k<=ys.length->ys.length<m+k->Qa N0 e x c s b K m (k:Int)=if (ys.drop k).all (fun y=>trR a y (-1) ev0)=true then K s else some (cf0,false)
 |0,k,h1,q=>by omega
 |m+1,k,h1,q=>by
  unfold Qa;have g:x.fChecks.length=ys.length:=by rw [f,aA]
  simp only [aA,A5,Ah,g];by_cases h:k<ys.length
  ·rw [if_pos (by omega),zqi f h,B2 _ k h,all_cons,(Oi d o (i _ (aD h)) (-1) ev0).2,A3,Ad k (by omega),zss e x c s a b d o ys f i p K m (k+1) (by omega) (by omega)];cases trR a ys[k] (-1) ev0<;>simp [Ao,Ap]
  grind
theorem zn1 {r:Ba}(b:CxA r.fa held){c:Cf}(hk:k<=1000)(m:CB held r.fa k c)(f:x∈r.fa.fEdges){e:Ev}(L:∀ y∈held,Bo y=Bo e->y=e):Ro N0 r c x ⟨bndV held r.fa.fVars.toNat c.fBindings⟩ e=some (rfC (coP r.fa held c x e)):=by
 have T:=m.lb;have Q:=m.ls;have R:=b.lo x f;have S:=b.lh;have u:=b.ok.vars;have wx:=b.wf.ed x f;have xv:=(b.ok.ed x f).var;have U:=ziw e.fTime x.fOpens c.fStarts;obtain ⟨p,X,N,W⟩:=X5 m.st;obtain ⟨ys,E,C⟩:=wx.checks;have D:ys.length<=1100000:=by have:=wx.lc;rw [E,aA] at this;exact this
 have i:EvS (enH held c.fBindings):=Jv (by omega);have z:EvS (enH (e::held) (bdN c x e)):=Jv (by unfold bdN;simp;omega);have o:=zyt ⟨u.1,u.2⟩ m.bd;have j1t:Fv N0 e ⟨bndV held r.fa.fVars.toNat c.fBindings⟩ x c true=some (cf0,false):=by unfold Fv;rw [Ao]
 unfold Ro;simp only [Ay,Al,Ah,A5];unfold coP;by_cases A:x.fType=e.fType;rotate_left
 ·rw [if_neg (fun h=>A h.symm),j1t,if_neg (fun h=>A h.1)];rfl
 rw [if_pos A.symm,zcz m.st.1 X];rw [zq5 N0 x ⟨bndV held r.fa.fVars.toNat c.fBindings⟩ e (fun g=>!hasI x.fInside g.fScope && vio (enH held c.fBindings) e g) p.fGuards (by have:=(b.wf.st p N).1;omega) (by have:=(b.wf.st p N).1;unfold N0;omega) (fun g V=>y4g o i ((b.wf.st p N).2 g V) x wx.li e),A3];have G:gdP r.fa c x (enH held c.fBindings) e=p.fGuards.any (fun g=>!hasI x.fInside g.fScope && vio (enH held c.fBindings) e g):=by unfold gdP;rw [W]
 rw [<-G];cases q1:gdP r.fa c x (enH held c.fBindings) e with
 |true =>
  rw [Ao,j1t,if_neg (by simp)];rfl
 |false =>
 rw [Ap,(Oi o i wx.cond x.fVar e).2,A3];cases q3:trR (enH held c.fBindings) x.fCond x.fVar e with
 |false =>
  simp only [aP,j1t];rw [if_neg (by simp)];rfl
 |true =>
  simp only [aS];unfold Fv;have w:(stN c x e).length<=1100000:=by unfold stN;omega
  rw [Ap,y16 N0 e.fTime x.fOpens c.fStarts m.ss (by omega) (by decide),Jo];have H:opL c.fStarts x.fOpens e.fTime=stN c x e:=rfl;rw [H,y17 N0 e.fTime (stN c x e) w (by decide) x.fLimits wx.ll,A3,Ah];cases Z:x.fLimits.all (keP (stN c x e) e.fTime) with
  |false =>
   rw [Ap,if_neg (by simp)];rfl
  |true =>
   have d:x.fVar.toNat<(bndV held r.fa.fVars.toNat c.fBindings).length:=by rw [O7];omega
   have P:((bndV held r.fa.fVars.toNat c.fBindings).getD x.fVar.toNat []).length<=1000000:=by
    have h1:=o x.fVar;have B:=i x.fVar;rw [h1] at B;unfold evs at B;rw [if_neg (by omega),O7,if_neg (by omega)] at B;exact B
   have M:=O7 held r.fa.fVars.toNat c.fBindings;have q:(bndV held r.fa.fVars.toNat c.fBindings)[x.fVar.toNat]=(bndV held r.fa.fVars.toNat c.fBindings).getD x.fVar.toNat []:=by
    simp [aO,d]
   unfold Cc;rw [Ao,if_pos (by rw [M];omega),Jo,y51 xv.1 d,q,if_pos (by omega),Jo,Bu (by grind) (by omega),aA,zqe xv.1 d,Jz d];have I:=y20 b.ok L m.bd xv;have O:=fun K=>zss e x c (stN c x e) (enH (e::held) (bdN c x e)) _ I z ys E C D K N0 0 (aH _) (by unfold N0;omega)
   refine (O _).trans ?_;have J:ckP x (enH (e::held) (bdN c x e))=ys.all (fun y=>trR (enH (e::held) (bdN c x e)) y (-1) ev0):=by unfold ckP;rw [zzd E]
   rw [aK,<-J];cases Y:ckP x (enH (e::held) (bdN c x e)) with
   |false =>
    rw [if_neg (by simp),if_neg (by simp)];rfl
   |true =>
    rw [if_pos rfl,y1a N0 x wx.lcl (by decide) _ w,Cd,if_pos (by omega),Jo];have F:Jp N0 e=some ⟨e.fTime,e.fSource,e.fSeq⟩:=rfl;rw [F,A3,Bu (by grind) (by omega),if_pos (by simp [A])];rfl
abbrev Mp:=List (Int×Bool)
def ixs (k n:Nat):List (Option Nat):=(range k).map some++replicate (n-k) none
variable {n:Nat}
theorem y4x (h:k<=n):(ixs k n).length=n:=by unfold ixs;simp;omega
variable {j:Nat}
theorem y4y (b:j<k):(ixs k n)[j]? = some (some j):=by
 unfold ixs;grind
theorem y4w (h:k<n):(ixs k n).set k (some k)=ixs (k+1) n:=by
 unfold ixs;rw [set_append_right _ _ (by simp)];obtain ⟨d,c⟩:∃ d,n-k=d+1:=⟨n-k-1,by omega⟩;have b:n-(k+1)=d:=by omega
 rw [c,b,range_succ,map_append,replicate_succ];simp
section
variable {β:Type}
variable {os:List Mp}
theorem zu6 (b:j<k)(c:Nat->Option β):aob (ixs k n,os) j c=c j:=by
 unfold aob;simp only [y4y b]
theorem y3i (h:k<n)(b:os.length=k)(v:Mp)(c:Ars Mp->Option β):ast (ixs k n,os) k v c=c (ixs (k+1) n,os++[v]):=by
 unfold ast;simp only [y4x (Nat.le_of_lt h)];rw [if_pos h,b,y4w h]
variable {ix:List (Option Nat)}
theorem zzi {l:Mp}(d:os[j]? = some l)(b:Srt l)(k:Int)(v:Bool)(c:Ars Mp->Option β):aup (ix,os) j k v c=c (ix,os.set j (sput l k v)):=by
 unfold aup;simp only [d];rw [if_pos (show (l.map (·.1)).Pairwise (· < ·) from b)]
theorem y80 {l:Mp}(b:os[j]? = some l)(k:Int)(z:Bool)(c:Bool->Bool->Option β):alk (ix,os) j k z c=c ((mlk l k).getD z) (mlk l k).isSome:=by
 unfold alk;simp only [b]
theorem y2y (h:n<=1000000)(k:Nat->Option β):mkm (n:Int) 8 k=k n:=by unfold mkm;grind
theorem y3j (i:Nat)(x:Option β):are i x=x:=by unfold are;rfl
theorem y7e (i:Nat)(x:Option β):frm i x=x:=by unfold frm;rfl
theorem zy3 (n:Nat):mkA Mp n=(ixs 0 n,[]):=by unfold mkA ixs;simp
end
variable {os:List Mp}
theorem zoo (h:os.length=n):aval (ixs n n,os)=os:=by
 unfold aval ixs;subst h;apply ext_getElem;all_goals simp_all
structure Ee (l:Mp):Prop where
 srt:Srt l
 all:∀ p∈l,p.2=true/\0<=p.1/\p.1<16
def has (l:Mp)(v:Int):Prop:=v∈l.map (·.1)
variable {l:Mp}
theorem ziy (h:Ee l)(v:Int):(mlk l v).getD false=true ↔ has l v:=by
 have d:=h.all;clear h
 induction l with
 |nil=>simp [mlk,has]
 |cons p r ih =>
  obtain ⟨a,b⟩:=p;have c:=(d (a,b) (by simp)).1;simp only at c;subst c;unfold mlk;by_cases e:v=a
  ·subst e;simp [has]
  ·rw [if_neg e];exact Iff.trans (ih (fun p f=>d p (aL _ f))) (by simp [has,e])
theorem y0f {k:Int}{v:Bool}:∀ p,p∈sput l k v->p=(k,v)\/p∈l:=by
 induction l with
 |nil=>intro p c;simpa [sput] using c
 |cons q r ih =>
  obtain ⟨a,b⟩:=q;intro p c;simp only [sput] at c;grind
theorem Ee.put (h:Ee l)(b:0<=v/\v<16):Ee (sput l v true) :=
 ⟨zro h.srt,fun p c=>(y0f p c).elim (fun e=>by rw [e];exact ⟨rfl,b⟩) (h.all p)⟩
theorem zqj {x:Int}:has (sput l v true) x ↔ x=v\/has l x:=zrp x
theorem zy6 {b:Mp}(h:Ee l)(d:Ee b)(o:∀ x,has l x ↔ has b x):l=b:=by
 have i:Str cmpI (l.map (·.1)):=h.srt.imp (fun q=>(Xf _ _).2 q);have g:Str cmpI (b.map (·.1)):=d.srt.imp (fun q=>(Xf _ _).2 q);have e:=Str.uniq Hq i g o;have f:∀ q:Mp,(∀ p∈q,p.2=true)->q=(q.map (·.1)).map (fun x=>(x,true)):=fun q m=>by
  rw [map_map];conv=>lhs;rw [<-map_id q]
  exact map_congr_left (fun p c=>by have:=m p c;cases p;simp_all)
 rw [f l (fun p c=>(h.all p c).1),f b (fun p c=>(d.all p c).1),e]
structure OsOk (k:Nat) (os:List Mp):Prop where
 len:os.length=k
 map:∀ l∈os,Ee l
def hasO (os:List Mp)(s:Nat)(v:Int):Prop:=∃ l,os[s]? = some l/\has l v
variable {s:Nat}
theorem OsOk.at (h:OsOk k os)(c:s<k):∃ l,os[s]? = some l/\Ee l:=by
 have b:s<os.length:=by rw [h.len];exact c
 exact ⟨os[s],aB b,h.map _ (aD b)⟩
theorem OsOk.put (h:OsOk k os)(d:os[s]? = some l)(i:0<=v/\v<16):OsOk k (os.set s (sput l v true))/\∀ t x,hasO (os.set s (sput l v true)) t x ↔ hasO os t x\/(t=s/\x=v):=by
 obtain ⟨g,m⟩:=List.getElem?_eq_some_iff.1 d;have hm:Ee l:=by rw [<-m];exact h.map _ (aD g)
 refine ⟨⟨by rw [length_set];exact h.len,fun q b=>?_⟩,fun t x=>?_⟩
 ·rcases mem_or_eq_of_mem_set b with f|f
  ·exact h.map q f
  ·rw [f];exact hm.put i
 ·unfold hasO;rw [getElem?_set];by_cases e:s=t
  ·subst e;rw [if_pos rfl,if_pos g];constructor
   ·rintro ⟨q,b,c⟩;injection b with b
    subst b;exact (zqj.1 c).elim (fun e=>aG ⟨rfl,e⟩) (fun c=>aF ⟨l,d,c⟩)
   ·rintro (⟨q,b,c⟩|⟨_,e⟩)
    ·rw [d] at b;injection b with b;subst b
     exact ⟨_,rfl,zqj.2 (aG c)⟩
    ·exact ⟨_,rfl,zqj.2 (aF e)⟩
  grind
def OccV (v:Int)(e:Exn):Prop:=∃ i:Nat,i<16/\v=(i:Int)/\Occ i e
variable {m0n:Nat}
theorem zmn (z:n<=1000000)(d:s<k)(e:s<m0n)(q:List AV)(i:Int×Ars Mp)(vs:List Int)(f:vs.length<=100)(o:∀ v∈vs,0<=v/\v<16)(K:Ars Mp->Option (Nat×Ars Mp)) :
  ∀ (m j:Nat) (os:List Mp),j<=vs.length->vs.length<m+j->OsOk k os->∃ b,P8 N0 m0n q (s:Int) i vs K m ((j:Int),(ixs k n,os))=K (ixs k n,b)/\OsOk k b/\∀ t x,hasO b t x ↔ hasO os t x\/(t=s/\x∈vs.drop j)
 |0,j,os,h1,c,_=>by omega
 |m+1,j,os,h1,c,g=>by
  unfold P8;simp only [aA,A5];by_cases h:j<vs.length
  ·obtain ⟨l,p,hm⟩:=g.at d;obtain ⟨y,o2⟩:=g.put p (o _ (aD h));rw [if_pos (by omega),A9 h,Dp (by omega) (by rw [aC];exact e),aC,zu6 d,zzi p hm.srt,Ad j (by omega)];obtain ⟨b,w,u,r⟩:=zmn z d e q i vs f o K m (j+1) _ (by omega) (by omega) y;refine ⟨b,w,u,fun t x=>?_⟩;rw [r,o2,aE h,aQ];constructor
   ·rintro ((h|⟨h1,c⟩)|⟨h1,c⟩)
    ·exact aF h
    ·exact aG ⟨h1,aF c⟩
    ·exact aG ⟨h1,aG c⟩
   ·rintro (h|⟨h1,c|c⟩)
    ·exact aF (aF h)
    ·exact aF (aG ⟨h1,c⟩)
    ·exact aG ⟨h1,c⟩
  ·rw [if_neg (by omega)];refine ⟨os,rfl,g,fun t x=>?_⟩;rw [aJ (by omega)];simp
theorem zh3 (z:n<=1000000)(d:s<k)(e:s<m0n)(q:List AV)(i:Int×Ars Mp)(vs:List Int)(f:vs.length<=100)(o:∀ v∈vs,0<=v/\v<16)(K:Ars Mp->Option (Nat×Ars Mp)) :
  ∀ (m j:Nat) (os:List Mp),j<=vs.length->vs.length<m+j->OsOk k os->∃ b,Oq N0 q m0n (s:Int) i vs K m ((j:Int),(ixs k n,os))=K (ixs k n,b)/\OsOk k b/\∀ t x,hasO b t x ↔ hasO os t x\/(t=s/\x∈vs.drop j)
 |0,j,os,h1,c,_=>by omega
 |m+1,j,os,h1,c,g=>by
  unfold Oq;simp only [aA,A5];by_cases h:j<vs.length
  ·obtain ⟨l,p,hm⟩:=g.at d;obtain ⟨y,o2⟩:=g.put p (o _ (aD h));rw [if_pos (by omega),A9 h,Dp (by omega) (by rw [aC];exact e),aC,zu6 d,zzi p hm.srt,Ad j (by omega)];obtain ⟨b,w,u,r⟩:=zh3 z d e q i vs f o K m (j+1) _ (by omega) (by omega) y;refine ⟨b,w,u,fun t x=>?_⟩;rw [r,o2,aE h,aQ];constructor
   ·rintro ((h|⟨h1,c⟩)|⟨h1,c⟩)
    ·exact aF h
    ·exact aG ⟨h1,aF c⟩
    ·exact aG ⟨h1,aG c⟩
   ·rintro (h|⟨h1,c|c⟩)
    ·exact aF (aF h)
    ·exact aF (aG ⟨h1,c⟩)
    ·exact aG ⟨h1,c⟩
  ·rw [if_neg (by omega)];refine ⟨os,rfl,g,fun t x=>?_⟩;rw [aJ (by omega)];simp
theorem zt2 {e:Exn}{vs:List Int}(h:∀ v,v∈vs ↔ ∃ i:Nat,i<16/\v=(i:Int)/\Occ i e)(v:Int):v∈vs ↔ OccV v e:=h v
theorem y31 {es:List Exn}(h:k<es.length)(K:Exn->Option β):idxD C3 (es.map Av) (k:Int) K=K es[k]:=by
 unfold idxD;rw [if_pos (by omega)];simp only [aC,getElem?_map,aB h,Option.map_some,N9]
theorem y7o {es:List Exn}(h:k<es.length)(K:Exn->Option β):eltD C3 (es.map Av) k K=K es[k]:=by
 unfold eltD;simp only [getElem?_map,aB h,Option.map_some,N9]
theorem zmo (r:n<=1000000)(d:s<k)(f:s<m0n)(es:List Exn)(o:es.length<=2000000)(p:∀ e∈es,WfE e)(K:Ars Mp->Option (Nat×Ars Mp)) :
  ∀ (m j:Nat) (os:List Mp),j<=es.length->es.length<m+j->OsOk k os->∃ c,Kk N0 m0n (es.map Av) (s:Int) K m ((j:Int),(ixs k n,os))=K (ixs k n,c)/\OsOk k c/\∀ t x,hasO c t x ↔ hasO os t x\/(t=s/\∃ e∈es.drop j,OccV x e)
 |0,j,os,h1,b,_=>by omega
 |m+1,j,os,h1,b,q=>by
  unfold Kk;simp only [aA,A5];by_cases h:j<es.length
  ·obtain ⟨vs,w,E,u⟩:=zdv (p _ (aD h)) N0 (by decide);rw [if_pos (by omega),y31 h,w,A3];obtain ⟨i,D,C,B⟩:=zmn r d f (es.map Av) ((j:Int),(ixs k n,os)) vs (by omega) (fun v F=>by grind) (fun k2_1_0y=>(Kk N0 m0n (es.map Av) (s:Int) K m) ((aM .i64 (((j:Int),(ixs k n,os)).1+1)),k2_1_0y)) N0 0 os (aH _) (by unfold N0;omega) q;refine Exists.imp (fun c=>?_) (zmo r d f es o p K m (j+1) i (by omega) (by omega) C);rintro ⟨A,z,y⟩;refine ⟨?_,z,fun t x=>?_⟩
   ·refine Eq.trans D ?_;simp only;rw [Ad j (by omega)];exact A
   ·rw [y,B,aK,aE h,zt2 u];constructor
    ·rintro ((h|⟨h1,b⟩)|⟨h1,e,b,g⟩)
     ·exact aF h
     ·exact aG ⟨h1,_,mem_cons_self,b⟩
     ·exact aG ⟨h1,e,aL _ b,g⟩
    ·rintro (h|⟨h1,e,b,g⟩)
     ·exact aF (aF h)
     ·rcases aQ.1 b with b|b
      ·subst b;exact aF (aG ⟨h1,g⟩)
      ·exact aG ⟨h1,e,b,g⟩
  ·rw [if_neg (by omega)];refine ⟨os,rfl,q,fun t x=>?_⟩;rw [aJ (by omega)];simp
theorem zh4 (r:n<=1000000)(d:s<k)(f:s<m0n)(es:List Exn)(o:es.length<=2000000)(p:∀ e∈es,WfE e)(K:Ars Mp->Option (Nat×Ars Mp)) :
  ∀ (m j:Nat) (os:List Mp),j<=es.length->es.length<m+j->OsOk k os->∃ c,K6 N0 (es.map Av) m0n (s:Int) K m ((j:Int),(ixs k n,os))=K (ixs k n,c)/\OsOk k c/\∀ t x,hasO c t x ↔ hasO os t x\/(t=s/\∃ e∈es.drop j,OccV x e)
 |0,j,os,h1,b,_=>by omega
 |m+1,j,os,h1,b,q=>by
  unfold K6;simp only [aA,A5];by_cases h:j<es.length
  ·obtain ⟨vs,w,E,u⟩:=zdv (p _ (aD h)) N0 (by decide);rw [if_pos (by omega),Ct h,y7o h,w,A3];obtain ⟨i,D,C,B⟩:=zh3 r d f (es.map Av) ((j:Int),(ixs k n,os)) vs (by omega) (fun v F=>by grind) (fun k2_1_0y=>(K6 N0 (es.map Av) m0n (s:Int) K m) ((aM .i64 (((j:Int),(ixs k n,os)).1+1)),k2_1_0y)) N0 0 os (aH _) (by unfold N0;omega) q;refine Exists.imp (fun c=>?_) (zh4 r d f es o p K m (j+1) i (by omega) (by omega) C);rintro ⟨A,z,y⟩;refine ⟨?_,z,fun t x=>?_⟩
   ·refine Eq.trans D ?_;simp only;rw [Ad j (by omega)];exact A
   ·rw [y,B,aK,aE h,zt2 u];constructor
    ·rintro ((h|⟨h1,b⟩)|⟨h1,e,b,g⟩)
     ·exact aF h
     ·exact aG ⟨h1,_,mem_cons_self,b⟩
     ·exact aG ⟨h1,e,aL _ b,g⟩
    ·rintro (h|⟨h1,e,b,g⟩)
     ·exact aF (aF h)
     ·rcases aQ.1 b with b|b
      ·subst b;exact aF (aG ⟨h1,g⟩)
      ·exact aG ⟨h1,e,b,g⟩
  ·rw [if_neg (by omega)];refine ⟨os,rfl,q,fun t x=>?_⟩;rw [aJ (by omega)];simp
theorem y2s (z:n<=1000000)(f:s<k)(g:s<m0n)(es:List Exn)(m:es.length<=2000000)(u:∀ e∈es,WfE e)(w:OsOk k os):∃ d,Y7 N0 (s:Int) (es.map Av) m0n (ixs k n,os)=some (m0n,(ixs k n,d))/\Xw N0 (s:Int) m0n (ixs k n,os) (es.map Av)=some (m0n,(ixs k n,d))/\OsOk k d/\∀ t x,hasO d t x ↔ hasO os t x\/(t=s/\∃ e∈es,OccV x e):=by
 obtain ⟨c,C,r,q⟩:=zmo z f g es m u (fun y=>some (m0n,y)) N0 0 os (aH _) (by unfold N0;omega) w;obtain ⟨b,B,p,o⟩:=zh4 z f g es m u (fun y=>some (m0n,y)) N0 0 os (aH _) (by unfold N0;omega) w;rw [aK] at q o;have e:b=c:=by
  apply ext_getElem
  ·rw [p.len,r.len]
  ·intro i h1 A;have E:=p.map _ (aD h1);have D:=r.map _ (aD A);have H:∀ x,has b[i] x ↔ has c[i] x:=fun x=>by
    have J:hasO b i x ↔ has b[i] x:=⟨fun ⟨l,G,F⟩=>by simp_all,fun h=>⟨_,aB h1,h⟩⟩;have I:hasO c i x ↔ has c[i] x:=⟨fun ⟨l,G,F⟩=>by simp_all,fun h=>⟨_,aB A,h⟩⟩;rw [<-J,<-I,o,q]
   exact zy6 E D H
 subst e;exact ⟨b,C,B,p,o⟩
def OwnG (a:Aut)(t:Nat)(x:Int):Prop:=∃ b,a.fStates[t]? = some b/\∃ g∈b.fGuards,OccV x g.fCond
def OwnX (ed:Ed)(x:Int):Prop:=∃ e∈chE ed++[ed.fCond],OccV x e
def OwnV (a:Aut)(t:Nat)(x:Int):Prop:=OwnG a t x\/∃ ed∈a.fEdges,ed.fFrom=(t:Int)/\OwnX ed x
inductive Rd (a:Aut):Nat->Int->Prop
 |own (t:Nat) (x:Int) (h:OwnV a t x):Rd a t x
 |step (ed:Ed) (he:ed∈a.fEdges) (t s:Nat) (x:Int) (ht:ed.fFrom=(t:Int)) (hs:ed.fTo=(s:Int)) (h:Rd a s x):Rd a t x
theorem zhh {x:Int}{e:Exn}(h:OccV x e):0<=x/\x<16:=by obtain ⟨i,hi,e,_⟩:=h;omega
variable {t:Nat}
theorem zhe {x:Int}(h:OwnV a t x):0<=x/\x<16:=by
 rcases h with ⟨_,_,_,_,h⟩|⟨_,_,_,_,_,h⟩<;>exact zhh h
theorem y0i {x:Int}(h:Rd a t x):0<=x/\x<16:=by
 induction h with
 |own t x h=>exact zhe h
 |step _ _ _ _ _ _ _ _ ih=>exact ih
theorem y1n {x:Int}:hasO (os++[[]]) t x ↔ hasO os t x:=by
 unfold hasO;constructor
 ·rintro ⟨l,b,c⟩;by_cases h:t<os.length
  ·grind
  ·rw [getElem?_append_right (by omega)] at b;obtain ⟨_,d⟩:=List.getElem?_eq_some_iff.1 b;have:l=[]:=by rw [<-d];simp
   subst this;simp [has] at c
 grind
theorem zn6:Ee []:=⟨by simp [Srt],by simp⟩
theorem OsOk.push (h:OsOk k os):OsOk (k+1) (os++[[]]):=⟨by rw [length_append,h.len];rfl,fun l b=>(mem_append.1 b).elim (h.map l) (fun b=>by rw [mem_singleton.1 b];exact zn6)⟩
theorem zx6 (r:n<=1000000)(f:s<k)(p:k<=n)(i:Int×Nat×Ars Mp)(d:i.1=(s:Int))(c:Stt)(D:c.fGuards.length<=2000000)(B:∀ g∈c.fGuards,WfE g.fCond)(K:Nat->Ars Mp->Option (List Mp)) :
  ∀ (m j:Nat) (os:List Mp),j<=c.fGuards.length->c.fGuards.length<m+j->OsOk k os->∃ b,Qd N0 a i c K m ((j:Int),n,(ixs k n,os))=K n (ixs k n,b)/\OsOk k b/\∀ t x,hasO b t x ↔ hasO os t x\/(t=s/\∃ g∈c.fGuards.drop j,OccV x g.fCond)
 |0,j,os,h1,E,_=>by omega
 |m+1,j,os,h1,E,C=>by
  unfold Qd;simp only [aA,A5];by_cases h:j<c.fGuards.length
  ·obtain ⟨o,q,_,A,z⟩:=y2s r f (by omega:s<n) [c.fGuards[j].fCond] (by simp) (fun e F=>by simp_all) C;simp only [map_cons,map_nil] at q;rw [if_pos (by omega),A9 h,d,q,Cd,Ad j (by omega)];obtain ⟨b,y,w,u⟩:=zx6 r f p i d c D B K m (j+1) o (by omega) (by omega) A;refine ⟨b,y,w,fun t x=>?_⟩;rw [u,z,aE h];grind
  grind
theorem zxb (p:WfA a)(C:a.fStates.length<=1000)(K:Nat->Ars Mp->Option (List Mp)) :
  ∀ (m k:Nat) (os:List Mp),k<=a.fStates.length->a.fStates.length<m+k->OsOk k os->∃ b,Lc N0 a K m ((k:Int),a.fStates.length,(ixs k a.fStates.length,os))=K a.fStates.length (ixs a.fStates.length a.fStates.length,b)/\OsOk a.fStates.length b/\∀ t x,hasO b t x ↔ hasO os t x\/(k<=t/\OwnG a t x)
 |0,k,os,h1,c,_=>by omega
 |m+1,k,os,h1,c,g=>by
  unfold Lc;simp only [aA,A5];by_cases h:k<a.fStates.length
  ·rw [if_pos (by omega),A9 h,Dp (by omega) (by rw [aC];exact h),aC,y3i h g.len];have f:=p.st _ (aD h);obtain ⟨d,z,y,w⟩:=zx6 (a:=a) (n:=a.fStates.length) (by omega) (Nat.lt_succ_self k) h ((k:Int),a.fStates.length,(ixs k a.fStates.length,os)) rfl a.fStates[k] (by omega) f.2 (fun k6_5_0y0 k6_5_0y1=>(Lc N0 a K m) ((aM .i64 (((k:Int),a.fStates.length,(ixs k a.fStates.length,os)).1+1)),k6_5_0y0,k6_5_0y1)) N0 0 (os++[[]]) (aH _) (by unfold N0;omega) g.push;refine Exists.imp (fun b=>?_) (zxb p C K m (k+1) d (by omega) (by omega) y);rintro ⟨u,r,q⟩;refine ⟨?_,r,fun t x=>?_⟩
   ·refine Eq.trans z ?_;simp only;rw [Ad k (by omega)];exact u
   ·rw [q,w,y1n,aK];constructor
    ·rintro ((i|⟨h1,c⟩)|⟨h1,c⟩)
     ·exact aF i
     ·subst h1;exact aG ⟨Nat.le_refl _,_,aB h,c⟩
     ·exact aG ⟨by omega,c⟩
    ·rintro (i|⟨D,o,B,A⟩)
     ·exact aF (aF i)
     ·by_cases e:t=k
      ·simp_all
      ·exact aG ⟨by omega,o,B,A⟩
  ·have:k=a.fStates.length:=by omega
   subst this;rw [if_neg (by omega)];refine ⟨os,rfl,g,fun t x=>⟨aF,fun h=>h.elim id (fun ⟨h1,o,c,_⟩=>?_)⟩⟩;simp_all
def Cp (bk:List (List Int))(ed:Ed):List (List Int):=if 0<=ed.fTo then bk.set ed.fTo.toNat (bk.getD ed.fTo.toNat []++[ed.fFrom]) else bk
theorem zop (bk:List (List Int))(ed:Ed):(Cp bk ed).length=bk.length:=by unfold Cp;split<;>simp
variable {bk:List (List Int)}
theorem zzp {ed:Ed}{y:Int}(b:t<bk.length):y∈(Cp bk ed).getD t [] ↔ y∈bk.getD t []\/(ed.fTo=(t:Int)/\y=ed.fFrom):=by
 unfold Cp;grind
theorem zhl:∀ (l:List Ed) (bk:List (List Int)),(l.foldl Cp bk).length=bk.length
 |[],_=>rfl
 |x::r,bk=>by rw [aN,zhl r,zop]
theorem zhk {y:Int}:∀ (l:List Ed) (bk:List (List Int)),t<bk.length->(y∈(l.foldl Cp bk).getD t [] ↔ y∈bk.getD t []\/∃ ed∈l,ed.fTo=(t:Int)/\y=ed.fFrom)
 |[],bk,_=>by simp
 |x::r,bk,h=>by
  rw [aN,zhk r _ (by rw [zop];exact h),zzp h];grind
theorem zzq {ed:Ed}(h:∀ q∈bk,q.length<=k):∀ q∈Cp bk ed,q.length<=k+1:=fun q b=>by
 unfold Cp at b;grind
theorem zd8 (h:WfX x):x.fChecks=(chE x).map Av/\(∀ e∈chE x,WfE e):=by
 obtain ⟨ys,b,c⟩:=h.checks;rw [zzd b];exact ⟨b,c⟩
theorem zxa (D:WfA a)(F:AOk a)(A:∀ x∈a.fEdges,x.fChecks.length<=1100000)(K:Nat->Ars Mp->List (List Int)->Option (List Mp)) :
  ∀ (m j:Nat) (bk:List (List Int)) (os:List Mp),j<=a.fEdges.length->a.fEdges.length<m+j->OsOk a.fStates.length os->bk.length=a.fStates.length->(∀ q∈bk,q.length<=j) ->
   ∃ b,Gv N0 a a.fStates.length K m ((j:Int),a.fStates.length,bk,(ixs a.fStates.length a.fStates.length,os))=K a.fStates.length (ixs a.fStates.length a.fStates.length,b) ((a.fEdges.drop j).foldl Cp bk)/\OsOk a.fStates.length b/\∀ t x,hasO b t x ↔ hasO os t x\/∃ ed∈a.fEdges.drop j,ed.fFrom=(t:Int)/\OwnX ed x
 |0,j,bk,os,h1,C,_,_,_=>by omega
 |m+1,j,bk,os,h1,C,R,V,B=>by
  have T:=D.le;have S:=F.st;unfold Gv;simp only [aA,A5];by_cases h:j<a.fEdges.length
  ·have d:=aD h;have i:=F.ed _ d;have r:=D.ed _ d;obtain ⟨J,X⟩:=zd8 r;have z:=A _ d;have I:(chE a.fEdges[j]).length<=1100000:=by rw [J,aA] at z;exact z
   obtain ⟨f,E⟩:∃ f:Nat,a.fEdges[j].fFrom=(f:Int):=⟨a.fEdges[j].fFrom.toNat,by have:=i.frm;omega⟩;have u:f<a.fStates.length:=by have:=i.frm;omega
   obtain ⟨p,_,H,P,O⟩:=y2s (n:=a.fStates.length) (m0n:=a.fStates.length) (by omega) u u (chE a.fEdges[j]++[a.fEdges[j].fCond]) (by simp;omega) (fun e w=>by
    rcases mem_append.1 w with w|w
    ·exact X e w
    ·rw [mem_singleton.1 w];exact r.cond) R
   have y:Cc N0 a.fEdges[j].fChecks=some a.fEdges[j].fChecks:=by unfold Cc;rw [if_pos (by omega)]
   rw [if_pos (by omega),A9 h,y,Jo,Bu (by simp;omega) (by omega)];rw [map_append,<-J,map_cons,map_nil] at H;rw [E,H,Cd];simp only [Al];have iter:∀ c,c.length=a.fStates.length->(∀ q∈c,q.length<=j+1)->c=Cp bk a.fEdges[j]->∃ b,Gv N0 a a.fStates.length K m ((aM .i64 ((j:Int)+1)),a.fStates.length,c,(ixs a.fStates.length a.fStates.length,p))=K a.fStates.length (ixs a.fStates.length a.fStates.length,b) ((a.fEdges.drop j).foldl Cp bk)/\OsOk a.fStates.length b/\∀ t x,hasO b t x ↔ hasO os t x\/∃ ed∈a.fEdges.drop j,ed.fFrom=(t:Int)/\OwnX ed x:=fun c b1 Z Y=>by
    obtain ⟨b,N,M,L⟩:=zxa D F A K m (j+1) c p (by omega) (by omega) P b1 Z;rw [Ad j (by omega)];refine ⟨b,?_,M,fun t x=>?_⟩
    ·rw [N,aE h,aN,Y]
    ·rw [L,O,aE h];simp only [aQ];constructor
     ·rintro ((G|⟨h1,C⟩)|⟨ed,h1,C⟩)
      ·exact aF G
      ·exact aG ⟨_,aF rfl,by rw [h1];exact E,C⟩
      grind
     ·rintro (G|⟨ed,h1|h1,C,W⟩)
      ·exact aF (aF G)
      ·subst h1;exact aF (aG ⟨by omega,W⟩)
      grind
   by_cases o:0<=a.fEdges[j].fTo
   ·rw [if_pos o];have ht:=i.tgt;have g:a.fEdges[j].fTo.toNat<bk.length:=by omega
    have U:(bk.getD a.fEdges[j].fTo.toNat []).length<=j:=by
     rw [aO,aB g];exact B _ (aD g)
    rw [Dp o (by omega),zxw g,Bu (by rw [length_singleton];omega) (by omega),Dp o (by omega),zxz g];have e:bk.set a.fEdges[j].fTo.toNat (bk.getD a.fEdges[j].fTo.toNat []++[(f:Int)])=Cp bk a.fEdges[j]:=by unfold Cp;rw [if_pos o,E]
    grind
   ·rw [if_neg o];exact iter bk V (fun q Q=>by have:=B q Q;omega) (by unfold Cp;rw [if_neg o])
  grind
theorem zx9 (i:n<=1000)(b f:Nat)(e:Ars Mp)(c:List (List Int))(K:Nat->Ars Mp->Option (List Mp)) :
  ∀ (m k:Nat) (os:List Mp),k<=n->n<m+k->os.length=k->Ie N0 b f e c n K m ((k:Int),(ixs k n,os))=K n (ixs n n,os++replicate (n-k) [])
 |0,k,os,h1,o,_=>by omega
 |m+1,k,os,h1,o,g=>by
  unfold Ie;simp only [A5];by_cases h:k<n
  ·rw [if_pos (by omega),Dp (by omega) (by rw [aC];exact h),aC,y3i h g,Ad k (by omega)];rw [zx9 i b f e c K m (k+1) (os++[[]]) (by omega) (by omega) (by rw [length_append,g];rfl)];obtain ⟨d,p⟩:∃ d,n-k=d+1:=⟨n-k-1,by omega⟩;grind
  ·have:k=n:=by omega
   simp_all
end Go.Proofs.YtidhlpjgifoneaaGreat
