/- Layer 25, plainly. -/
import Derived.Test.YtidhlpjgifoneaaGreatK35
set_option linter.unusedVariables false
set_option linter.unusedSimpArgs false
set_option maxRecDepth 100000
namespace Go.Proofs.YtidhlpjgifoneaaGreat
open Go.RowKit List
open Nat renaming zero_le->aA,le_trans->aR
open List renaming length_map->aB,drop_eq_getElem_cons->aC,getElem_mem->aD,mem_singleton->aE,mem_cons_of_mem->aG,drop_eq_nil_of_le->aH,getD_eq_getElem?_getD->aJ,take_append_drop->aK,pairwise_iff_getElem->aL,getElem?_eq_getElem->aM,mem_append->aN,eq_nil_iff_forall_not_mem->aO,length_take->aP,mem_flatMap->aS,cons_append->aT,foldl_cons->aU,drop_zero->aV
open Option.some renaming inj->aF
open Option renaming isSome_iff_exists->aQ
theorem zox {e:Exn}(h:WfE e):∃ b:Bool,Mj N0 e=some b:=by
 obtain ⟨z,f,g⟩:=h;obtain ⟨c,m,_⟩:=zwe 200 (by omega) (by omega) z e g f N0 (by unfold N0;omega);obtain ⟨d,j,_⟩:=y1h z e g f N0 (by unfold N0;omega);unfold Mj;simp only [Ax,Am,Lw];rw [m,A3,j,A3,A5];split
 ·exact ⟨_,rfl⟩
 ·exact ⟨_,rfl⟩
theorem zvr (l:List Gd)(f:∀ g∈l,WfE g.fCond)(j:l.length<=1100000):∀ (m k:Nat),k<=l.length->l.length<m+k->∃ b:Bool,Ql N0 l (some true) m (k:Int)=some b
 |0,k,h1,h2=>by omega
 |m+1,k,h1,h2=>by
  unfold Ql;simp only [aB,A5,Aj];by_cases h:k<l.length
  ·obtain ⟨b,n⟩:=zox (f _ (aD h));rw [if_pos (by omega),A9 h,n,A3,Ae k (by omega)];cases b with
   |true=>rw [Ap];exact zvr l f j m (k+1) (by omega) (by omega)
   |false=>rw [Aq];exact ⟨_,rfl⟩
  ·rw [if_neg (by omega)];exact ⟨_,rfl⟩
theorem y2t (f:Stt)(h:f.fGuards.length<=1100000/\∀ g∈f.fGuards,WfE g.fCond):∃ b:Bool,Uq N0 f.fGuards=some b:=zvr f.fGuards h.2 h.1 N0 0 (aA _) (by have:=h.1;unfold N0;omega)
theorem zrc (a:Aut)(v:Int)(x:Ed)(ys:List Exn)(f:x.fChecks=ys.map Av)(j:∀ y∈ys,WfE y)(o:ys.length<=1100000)(P:Prop)(K:Option Bool)(n:∃ b:Bool,K=some b/\(b=true->P)):∀ (m k:Nat),k<=ys.length->ys.length<m+k->∃ b:Bool,Qm N0 a v x K m (k:Int)=some b/\(b=true->P)
 |0,k,h1,h2=>by omega
 |m+1,k,h1,h2=>by
  unfold Qm;have g:x.fChecks.length=ys.length:=by rw [f,aB]
  simp only [aB,A5,Aj,g];by_cases h:k<ys.length
  ·obtain ⟨b,p⟩:=zox (j _ (aD h));rw [if_pos (by omega),zpf f h,p,A3,Ae k (by omega)];cases b with
   |true=>rw [Ap];exact zrc a v x ys f j o P K n m (k+1) (by omega) (by omega)
   |false=>rw [Aq];exact ⟨false,rfl,fun h=>by cases h⟩
  ·rw [if_neg (by omega)];exact n
def FewA (a:Aut):Prop:=a.fEdges.length<=40/\∀ x∈a.fEdges,x.fOpens.length<=12
theorem zrd (a:Aut)(s:WfA a)(K:Option Bool)(t:∃ b:Bool,K=some b/\(b=true->a.fEdges.length<=40)):∀ (m k:Nat),k<=a.fEdges.length->k<=60->60<m+k->(∀ x∈a.fEdges.take k,x.fOpens.length<=12)->∃ b:Bool,Ik N0 a K m (k:Int)=some b/\(b=true->FewA a)
 |0,k,h1,h2,y,p=>by omega
 |m+1,k,h1,h2,y,p=>by
  have g:(60<=k\/a.fEdges.length<=k)->∃ b:Bool,K=some b/\(b=true->FewA a):=fun F=>by
   obtain ⟨b,z,u⟩:=t;refine ⟨b,z,fun j=>⟨u j,fun x f=>p x ?_⟩⟩;have:=u j;rw [take_of_length_le (by omega)];exact f
  have no:∃ b:Bool,some false=some b/\(b=true->FewA a):=⟨false,rfl,fun h=>by cases h⟩;unfold Ik;simp only [aB,A5,Ax,Am,L9,Ey,Aj,Ap,Aq];by_cases h:k<a.fEdges.length;rotate_left
  ·rw [if_neg (by omega)];exact g (by omega)
  rw [if_pos (by omega)];by_cases w:k<60;rotate_left
  ·rw [if_neg (by omega)];exact g (by omega)
  rw [if_pos (by omega),A9 h,Ae k (by omega)];have wx:=s.ed _ (aD h);obtain ⟨b,j⟩:=zox wx.cond;rw [j,A3];cases b with
  |false=>rw [Aq];exact no
  |true =>
  rw [Ap];split
  ·exact no
  split
  ·exact no
  split
  ·exact no
  split
  ·exact no
  split
  ·exact no
  rename_i E D C B A;obtain ⟨ys,q,n⟩:=wx.checks;have o:ys.length<=1100000:=by have:=wx.lc;rw [q,aB] at this;exact this
  have v:=zrd a s K t m (k+1) (by omega) (by omega) (by omega) (fun x f=>by
   rw [take_succ_eq_append_getElem h] at f;rcases aN.1 f with f|f
   ·exact p x f
   ·rw [aE.1 f];omega)
  exact zrc a (k:Int) _ ys q n o (FewA a) _ v N0 0 (aA _) (by unfold N0;omega)
theorem zrf (a:Aut)(g:WfA a)(P:Prop)(K:Option Bool)(f:∃ b:Bool,K=some b/\(b=true->P)):∀ (m k:Nat),k<=a.fStates.length->k<=30->30<m+k->∃ b:Bool,Il N0 a K m (k:Int)=some b/\(b=true->P)
 |0,k,h1,h2,p=>by omega
 |m+1,k,h1,h2,p=>by
  have no:∃ b:Bool,some false=some b/\(b=true->P):=⟨false,rfl,fun h=>by cases h⟩;unfold Il;simp only [aB,A5,Ax,Am,L8,Fq,Aj,Ap,Aq];by_cases h:k<a.fStates.length;rotate_left
  ·rw [if_neg (by omega)];exact f
  rw [if_pos (by omega)];by_cases o:k<30;rotate_left
  ·rw [if_neg (by omega)];exact f
  have j:=zrf a g P K f m (k+1) (by omega) (by omega) (by omega);obtain ⟨b,n⟩:=y2t _ (g.st _ (aD h));have hi:∀ Q:Stt->Option Bool,idx a.fStates (k:Int) Q=Q a.fStates[k]:=fun Q=>A9 h Q
  rw [if_pos (by omega),Ae k (by omega)];simp only [hi,n,A3];repeat' split;all_goals first|exact no|(cases b<;>first|(rw [Ap];exact j)|(rw [Aq];exact no))|skip
theorem y33 (a:Aut)(f:WfA a):∃ b:Bool,Ur N0 a=some b/\(b=true->FewA a):=by
 unfold Ur;refine zrf a f (FewA a) _ ?_ N0 0 (aA _) (by omega) (by unfold N0;omega);refine zrd a f _ ?_ N0 0 (aA _) (by omega) (by unfold N0;omega) (by simp);simp only [Ax,Am,Lt,aB,A5];split
 ·exact ⟨_,rfl,fun h=>by simp at h;omega⟩
 ·exact ⟨_,rfl,fun h=>by cases h⟩
theorem zgo (l:List Ev)(f:l.length<=1000000)(a:Aut)(K:List (Rf×Ev)->Option (Option B9×Int)):∀ (m k:Nat) (mp:List (Rf×Ev)),k<=l.length->l.length<m+k->S7 N0 l a K m ((k:Int),mp)=K ((l.drop k).foldl (fun m e=>mput m (Bm e) e) mp)
 |0,k,mp,h1,h2=>by omega
 |m+1,k,mp,h1,h2=>by
  unfold S7;simp only [aB,A5];by_cases h:k<l.length
  ·have b:Jf N0 l[k]=some (Bm l[k]):=rfl;rw [if_pos (by omega),A9 h,b,A3,y1p,B1 _ k h,aU,Ae k (by omega)];exact zgo l f a K m (k+1) _ (by omega) (by omega)
  grind
theorem zp6 (a:Aut)(p:WfA a)(l:List Ev)(g:l.length<=1000000):∃ q:Int,H6 N0 a l=some q/\((q≠0/\G5 N0 a l=some (none,q))\/(q=0/\AOk a/\y4g l/\Ir N0 a=some 0/\Du l=0/\∃ mp,HM l mp/\G5 N0 a l=some (some ⟨a,mp⟩,0))):=by
 obtain ⟨r,o,n,j⟩:=zhz N0 (by decide) a p;unfold H6 G5;rw [o,n,A3,A3,Aj,A5,Aj,A5];by_cases h:r=0;rotate_left
 ·simp_all
 rw [if_pos h,if_pos h,zw3 N0 l (by unfold N0;omega) g,y36 N0 l (by unfold N0;omega) (by decide) g,A3,A3,Aj,A5];refine ⟨Du l,rfl,?_⟩;by_cases f:Du l=0;rotate_left
 ·simp_all
 rw [if_pos f];have b:=zcn f;refine Or.inr ⟨f,j h,b,by rw [h] ,f,l.foldl (fun m e=>mput m (Bm e) e) [],fun r=>?_,?_⟩
 ·rw [zxa r l [] b.st];simp [mlk]
 ·refine (zgo l g a _ N0 0 [] (aA _) (by unfold N0;omega)).trans ?_;rw [aV]
variable {a:Aut}{c:Cf}{k:Nat}{e:Ev}{d:Cf}
theorem y6g {held:List Ev}(p:CxA a held)(j:Str Co held)(n:CB held a k c){x:Ed}(f:x∈a.fEdges)(s:e∈held)(h:coP a held c x e=some d)(q:0<=d.fState):CB held a (k+1) d:=by
 have o:=zxy p n f h;have m:=Zu h;have eo:=p.ok.ed x f;refine ⟨?_,?_,?_,o.1,o.2⟩
 ·rw [m] at q ⊢;exact ⟨q,eo.tgt.2⟩
 ·rw [m];intro b g;rcases aN.1 g with g|g
  ·exact n.bd b g
  ·rw [aE.1 g];refine ⟨eo.var,?_⟩;rw [zx4 j s];rfl
 ·rw [m];exact (y1n e.fTime x.fOpens n.ss).filter _
theorem CB.up {held:List Ev}(h:CB held a k c):CB held a (k+1) c:=⟨h.st,h.bd,h.ss,by have:=h.lb;omega,by have:=h.ls;omega⟩
theorem y3b {held:List Ev}(j:CxA a held)(f:Str Co held)(g:CB held a k c)(m:e∈held)(h:d∈outP a held c e)(o:0<=d.fState):CB held a (k+1) d:=by
 unfold outP at h;rcases aN.1 h with h|h
 ·split at h
  ·rw [aE.1 h];exact g.up
  ·simp at h
 ·obtain ⟨x,b,n⟩:=mem_filterMap.1 h;exact y6g j f g (Wp b).1 m n o
variable {l:List Cf}
theorem zy7 {held:List Ev}(h:d∈cfN a held l e):∃ c∈l,d∈outP a held c e/\0<=d.fState:=by
 unfold cfN at h;obtain ⟨c,h1,h2⟩:=aS.1 ((Dk cfCmp_to _ _).1 h);exact ⟨c,h1,zq9 h2⟩
theorem y26 {held:List Ev}(f:CxA a held)(b:Str Co held)(j:∀ c∈l,CB held a k c)(g:e∈held):∀ d∈cfN a held l e,CB held a (k+1) d:=fun d h=>by
 obtain ⟨c,h1,h2,m⟩:=zy7 h;exact y3b f b (j c h1) g h2 m
theorem y61 {held:List Ev}(f:CxA a held)(g:k<=1000)(h:∀ c∈l,CB held a k c)(e:Ev):∀ d∈maN a held l e,maOk d=true:=fun d b=>by
 unfold maN at b;obtain ⟨c,h1,h2⟩:=aS.1 ((Dk Ek _ _).1 b);exact zx0 f g (h c h1) e d h2
theorem y3j {held:List Ev}(b:a.fEdges.length<=100)(l:List Cf)(e:Ev):(maN a held l e).length<=101*l.length:=by
 unfold maN;have f:=Zt (fun c=>maO (outP a held c e)) 101 l (fun c _=>by have:=Nz (outP a held c e);have:(outP a held c e).length<=a.fEdges.length+1:=Si;omega);have:=Zk (c:=Bh) (l.flatMap (fun c=>maO (outP a held c e)));omega
def wiP (most:Nat)(a:Aut)(held:List Ev):List Ev->List Cf->List Ma->List Cf×List Ma×Bool
 |[],cs,b=>(cs,b,true)
 |e::r,cs,b=>if most<(cfN a held cs e).length\/most<(puts Bh b (maN a held cs e)).length then ([],[],false) else wiP most a held r (cfN a held cs e) (puts Bh b (maN a held cs e))
theorem zc1 {l:List Ev}(j:CxA a l)(g:Str Co l)(f:a.fEdges.length<=100)(most:Nat)(hm:most<=4096)(p:1<=most)(w:l.length<=900) :
  ∀ (m k:Nat) (cs:List Cf) (b:List Ma),k<=l.length->l.length<m+k->cs.length<=most->b.length<=most->(∀ c∈cs,CB l a k c)->(∀ d∈b,maOk d=true)->I0 N0 (most:Int) l a (fun t s=>some (t,s,true)) m (cs,b,(k:Int))=some (wiP most a l (l.drop k) cs b)
 |0,k,cs,b,h1,h2,A,y,n,q=>by omega
 |m+1,k,cs,b,h1,h2,A,y,n,q=>by
  unfold I0;simp only [aB,A5];by_cases h:k<l.length
  ·have x:=aD h;have z:=y3j (held:=l) f cs l[k];have o:=y61 j (by omega) n l[k];rw [if_pos (by omega),A9 h,y7f j f (by omega) l[k] cs n (by omega),A3,B1 _ k h];have u:=fun K=>zl2 (most:Int) l a (cs,b,(k:Int)) (cfN a l cs l[k],maN a l cs l[k]) o (by grind) K N0 0 b (aA _) (by show (maN a l cs l[k]).length<2000000000+0;omega) (by show b.length+((maN a l cs l[k]).length-0)<=1000000;omega) q
   refine (u _).trans ?_;rw [aV];simp only [Ax,Am,Ki,A5,Ap];have v:=zc1 j g f most hm p w m (k+1) (cfN a l cs l[k]) (puts Bh b (maN a l cs l[k])) (by omega) (by omega);unfold wiP;by_cases C:most<(cfN a l cs l[k]).length
   ·simp_all
   rw [if_neg (by omega)];by_cases B:most<(puts Bh b (maN a l cs l[k])).length
   ·simp_all
   rw [if_neg (by omega),if_neg (by omega),Ae k (by omega)];exact v (by omega) (by omega) (y26 j g n x) (zqz q o)
  ·rw [if_neg (by omega),aH (by omega)];rfl
theorem cb0 {l:List Ev}(g:AOk a):CB l a 0 cf0:=⟨⟨by simp,by have:=g.st;simp;omega⟩,fun b f=>by simp at f,by simp [SS],by simp,by simp⟩
theorem zvm {l:List Ev}(h:CxA a l)(b:Str Co l)(g:a.fEdges.length<=100)(most:Nat)(hm:most<=4096)(f:1<=most)(j:l.length<=900):Tz N0 a l (most:Int)=some (wiP most a l l [cf0] []):=by
 unfold Tz;have n:Qv N0=some cf0:=rfl;rw [n,A3];exact zc1 h b g most hm f j N0 0 [cf0] [] (aA _) (by unfold N0;omega) (by simp;omega) (by simp) (fun c m=>by rw [aE.1 m];exact cb0 h.ok) (by simp)
theorem zov (a:Aut)(g:WfA a)(l:List Ev):∃ b:Bool,M3 N0 a l=some b/\(b=true->FewA a/\l.length<=12/\∃ q:Int,H6 N0 a l=some q/\(q=0->(wiP 150 a l l [cf0] []).2.2=true)):=by
 obtain ⟨b,w,v⟩:=y33 a g;unfold M3;simp only [Ax,Am,Ks];rw [w,A3,y5i N0 l (by decide),Aj,A3];cases b with
 |false=>rw [Aq,Ap];simp_all
 |true =>
  rw [Ap];cases j:fewE l with
  |false=>simp only [Bool.not_false,Ap];simp_all
  |true =>
   simp only [Bool.not_true,Aq];obtain ⟨y,_⟩:=y0n j;obtain ⟨q,p,o⟩:=zp6 a g l (by omega);rw [p,A3,Aj,A5];rcases o with ⟨h,_⟩|⟨h,t,s,_,_,_⟩
   ·simp_all
   ·have n:=v rfl;have f:CxA a l:=⟨g,t,fun x f=>by have:=n.2 x f;omega,by omega⟩;have m:=zvm f s.st (by have:=n.1;omega) 150 (by omega) (by omega) (by omega);have u:((150:Nat):Int)=150:=rfl;rw [u] at m;rw [if_pos h,m,A3];simp_all
variable {h1 h2:List Ev}
theorem zdv:∀ (l:List Bd) (vs:List (List Ev)),(∀ b∈l,lkH h1 b.fRef=lkH h2 b.fRef)->l.foldl (addB h1) vs=l.foldl (addB h2) vs
 |[],vs,_=>rfl
 |b::l,vs,h=>by
  rw [aU,aU];have:addB h1 vs b=addB h2 vs b:=by unfold addB;rw [h b (by simp)]
  rw [this];exact zdv l _ (fun x f=>h x (aG _ f))
theorem ze2 {l:List Bd}(h:∀ b∈l,lkH h1 b.fRef=lkH h2 b.fRef):enH h1 l=enH h2 l:=zdv l _ h
theorem zxz (h:∀ b∈c.fBindings,lkH h1 b.fRef=lkH h2 b.fRef)(x:Ed)(e:Ev):coP a h1 c x e=coP a h2 c x e:=by
 have g:enH (e::h1) (bdN c x e)=enH (e::h2) (bdN c x e):=ze2 (fun b f=>by
  unfold lkH;rw [find?_cons,find?_cons];by_cases q:Bm e=b.fRef
  ·simp [q]
  ·simp only [q,decide_false];rcases aN.1 f with f|f
   ·exact h b f
   ·rw [aE.1 f] at q;exact absurd rfl q)
 unfold coP;rw [ze2 h,g]
theorem zgq (h:∀ b∈c.fBindings,lkH h1 b.fRef=lkH h2 b.fRef)(e:Ev):outP a h1 c e=outP a h2 c e:=by
 unfold outP skP;rw [ze2 h];congr 1;exact congrArg (fun f=>filterMap f (Dd a c.fState)) (funext fun x=>zxz h x e)
theorem zbj {α b:Type}{f g:α->List b}:∀ {l:List α},(∀ x∈l,f x=g x)->l.flatMap f=l.flatMap g
 |[],_=>rfl
 |x::l,h=>by rw [flatMap_cons,flatMap_cons,h x (by simp),zbj (fun y j=>h y (aG _ j))]
theorem zy9 (h:∀ c∈l,∀ b∈c.fBindings,lkH h1 b.fRef=lkH h2 b.fRef)(e:Ev):cfN a h1 l e=cfN a h2 l e:=by
 unfold cfN;rw [zbj (fun c f=>by rw [zgq (h c f) e])]
theorem zx1 (h:∀ c∈l,∀ b∈c.fBindings,lkH h1 b.fRef=lkH h2 b.fRef)(e:Ev):maN a h1 l e=maN a h2 l e:=by
 unfold maN;rw [zbj (fun c f=>by rw [zgq (h c f) e])]
theorem y3k {l more:List Ev}(f:Str Co more)(hm:∀ x∈l,x∈more){r:Rf}(h:(lkH l r).isSome=true):lkH l r=lkH more r:=by
 obtain ⟨y,b⟩:=aQ.1 h;obtain ⟨h1,h2⟩:=zi7 b;have:=zx4 f (hm y h2);rw [h1] at this;rw [b,this]
theorem y7n {l more:List Ev}(f:Str Co more)(hm:∀ x∈l,x∈more){cs:List Cf}(g:∀ c∈cs,CB l a k c):∀ c∈cs,∀ b∈c.fBindings,lkH l b.fRef=lkH more b.fRef:=fun c h b j=>y3k f hm ((g c h).bd b j).2
theorem zr8 (a b:Rf):Nh N0 a b=some (rCmp a b):=by
 have:Nh (1999999996+4) a b=some (rCmp a b):=by
  unfold Nh;simp only [A3,O7,y0p];rfl
 exact this
structure CIv (a:Aut) (rest:List Ev) (c:Cf):Prop where
 asc:c.fBindings.Pairwise (fun x y=>rCmp x.fRef y.fRef<0)
 bef:∀ b∈c.fBindings,∀ e∈rest,rCmp b.fRef (Bm e)<0
 scp:∀ s∈c.fStarts,(0<=s.fScope/\s.fScope<a.fScopes)/\0<=s.fTime/\s.fTime<=1099511627776
variable {r:List Ev}
theorem CIv.tail (h:CIv a (e::r) c):CIv a r c:=⟨h.asc,fun b g x f=>h.bef b g x (aG _ f),h.scp⟩
theorem y6f (w:AOk a){held:List Ev}(m:Str Co (e::r))(j:Cl e=true)(h:CIv a (e::r) c){x:Ed}(t:x∈a.fEdges)(v:coP a held c x e=some d):CIv a r d:=by
 rw [Zu v];obtain ⟨o,z⟩:=pairwise_cons.1 m;refine ⟨?_,fun b f y g=>?_,fun s u=>?_⟩
 ·show Pairwise _ (bdN c x e);unfold bdN;rw [pairwise_append];exact ⟨h.asc,pairwise_singleton _ _,fun b f y g=>by rw [aE.1 g];exact h.bef b f e (by simp)⟩
 ·rcases aN.1 f with f|f
  ·exact h.bef b f y (aG _ g)
  ·rw [aE.1 f];exact o y g
 ·have n:=(mem_filter.1 u).1;rcases opL_mem e.fTime x.fOpens n with ⟨q,p⟩|k
  ·refine ⟨(w.ed x t).opn _ q,?_⟩;rw [p];unfold Cl at j;simp only [Bool.and_eq_true,decide_eq_true_eq] at j;exact ⟨j.1,j.2.1⟩
  ·exact h.scp s k
theorem y3a (m:AOk a){held:List Ev}(f:Str Co (e::r))(j:Cl e=true)(h:CIv a (e::r) c)(b:d∈outP a held c e):CIv a r d:=by
 unfold outP at b;rcases aN.1 b with b|b
 ·split at b
  ·rw [aE.1 b];exact h.tail
  ·simp at b
 ·obtain ⟨x,g,b⟩:=mem_filterMap.1 b;exact y6f m f j h (Wp g).1 b
theorem y6j (j:AOk a){held:List Ev}(b:Str Co (e::r))(f:Cl e=true){cs:List Cf}(h:∀ c∈cs,CIv a (e::r) c):∀ d∈cfN a held cs e,CIv a r d:=fun d g=>by
 obtain ⟨c,h1,h2,_⟩:=zy7 g;exact y3a j b f (h c h1) h2
theorem zqj {held:List Ev}:∀ (p:List Ev) (cs:List Cf) (b:List Ma),(wiP 150 a held (p++[e]) cs b).2.2=true->∃ x m,wiP 150 a held p cs b=(x,m,true)/\wiP 150 a held (p++[e]) cs b=(cfN a held x e,puts Bh m (maN a held x e),true)/\(cfN a held x e).length<=150/\(puts Bh m (maN a held x e)).length<=150
 |[],cs,b,h=>by
  refine ⟨cs,b,rfl,?_⟩;rw [nil_append] at h ⊢;unfold wiP at h ⊢;split at h
  ·cases h
  ·rename_i q;rw [if_neg q];exact ⟨rfl,by omega,by omega⟩
 |f::p,cs,b,h=>by
  rw [aT] at h ⊢;unfold wiP at h ⊢;split at h
  ·cases h
  ·rename_i q;rw [if_neg q,if_neg q];exact zqj p _ _ h
theorem zgk (r:B9)(c:Cf)(j:c.fStarts.length<=1000000)(f:∀ s∈c.fStarts,(0<=s.fScope/\s.fScope<r.fa.fScopes)/\0<=s.fTime/\s.fTime<=1099511627776)(g:SS c.fStarts):∀ (m k:Nat),k<=c.fStarts.length->c.fStarts.length<m+k->Dg N0 c r (some 0) m (k:Int)=some 0
 |0,k,h1,h2=>by omega
 |m+1,k,h1,h2=>by
  unfold Dg;simp only [aB,A5,Ax,Am,Ez,Gu,Ap,Aq];by_cases h:k<c.fStarts.length
  ·obtain ⟨⟨q,p⟩,o,n⟩:=f _ (aD h);have b:=zgk r c j f g m (k+1) (by omega) (by omega);rw [if_pos (by omega),A9 h,if_neg (by omega),if_neg (by omega),if_neg (by omega),if_neg (by omega),Ae k (by omega)];by_cases t:0<k
   ·have:=aL.1 g (k-1) k (by omega) h (by omega);rw [if_pos (by omega),Ga k (by omega) (by omega),A9 (by omega:k-1<c.fStarts.length),if_neg (by omega)];exact b
   ·rw [if_neg (by omega)];exact b
  ·rw [if_neg (by omega)]
theorem zgl (r:B9)(held:List Ev)(hm:HM held r.fheld)(c:Cf)(o:c.fBindings.length<=1000000)(f:BdOk held r.fa.fVars c.fBindings)(g:c.fBindings.Pairwise (fun x y=>rCmp x.fRef y.fRef<0))(K:Option Int)(j:K=some 0):∀ (m k:Nat),k<=c.fBindings.length->c.fBindings.length<m+k->E3 N0 c r K m (k:Int)=some 0
 |0,k,h1,h2=>by omega
 |m+1,k,h1,h2=>by
  unfold E3;simp only [aB,A5,Ax,Am,Gt,Gs,Ap,Aq,Aj];by_cases h:k<c.fBindings.length
  ·obtain ⟨⟨t,s⟩,n⟩:=f _ (aD h);have b:=zgl r held hm c o f g K j m (k+1) (by omega) (by omega);have q:(⟨c.fBindings[k].fRef.fTime,c.fBindings[k].fRef.fSource,c.fBindings[k].fRef.fSeq⟩:Rf)=c.fBindings[k].fRef:=rfl;rw [if_pos (by omega),A9 h,q,X3,hm,n];simp only [Ap];rw [if_neg (by omega),if_neg (by omega),Ae k (by omega)];by_cases u:0<k
   ·have:=aL.1 g (k-1) k (by omega) h (by omega);have p:(⟨c.fBindings[k-1].fRef.fTime,c.fBindings[k-1].fRef.fSource,c.fBindings[k-1].fRef.fSeq⟩:Rf)=c.fBindings[k-1].fRef:=rfl;rw [if_pos (by omega),Ga k (by omega) (by omega),A9 (by omega:k-1<c.fBindings.length),p,zr8,A3,if_neg (by omega)];exact b
   ·rw [if_neg (by omega)];exact b
  ·rw [if_neg (by omega)];exact j
theorem zzs {r:B9}{held:List Ev}(hm:HM held r.fheld)(g:k<=1000)(f:CB held r.fa k c){b:List Ev}(hi:CIv r.fa b c):Eh N0 r c=some 0:=by
 have h1:=f.lb;have h2:=f.ls;have h:=f.st;unfold Eh;simp only [Ax,Am,Gy,A5,Ap,aB];rw [if_neg (by omega),if_neg (by omega),if_neg (by omega)];have:=zgk r c (by omega) hi.scp f.ss N0 0 (aA _) (by unfold N0;omega);exact zgl r held hm c (by omega) f.bd hi.asc _ this N0 0 (aA _) (by unfold N0;omega)
theorem y59 (e:Ev):W3 N0 e=some (Cl e):=by
 unfold W3 Cl
 simp only [Ax,Am,F6,A5]
 repeat' split
 all_goals (simp_all<;>omega)
theorem y5h (m:Cl e=true)(l:List Cf)(s:l.length<=1000000)(o:∀ c∈l,c.fBindings.length<=1000000)(h:∀ c∈l,CIv a (e::r) c):Ni N0 l e=some 0:=by
 unfold Ni;rw [y59,m,A3,Aj,Ap];rw [ztn N0 e (fun _=>false) l (by omega) (by unfold N0;omega) (fun c g=>by
  have n:=o c g;unfold N9 Z9;rw [ztm N0 e (fun b=>decide (0<=rCmp b.fRef (Bm e))) c.fBindings (by omega) (by unfold N0;omega) (fun b _=>by
   unfold N8;have j:Jf N0 e=some (Bm e):=rfl;rw [j,A3];have q:(⟨b.fRef.fTime,b.fRef.fSource,b.fRef.fSeq⟩:Rf)=b.fRef:=rfl;have p:(⟨(Bm e).fTime,(Bm e).fSource,(Bm e).fSeq⟩:Rf)=Bm e:=rfl;simp only [q,p,zr8,A3]),A3,A3]
  congr 1;rw [any_eq_false];intro b f;have:=(h c g).bef b f e (by simp);simp only [decide_eq_true_eq];omega),A3]
 have:(l.any fun _=>false)=false:=by rw [any_eq_false];simp
 rw [this,Aq]
theorem zy4:∀ (l p r:List Ev),chk p (l++r)=0->chk p l=0
 |[],p,r,_=>by unfold chk;rfl
 |e::l,p,r,h=>by
  rw [aT] at h;unfold chk at h ⊢;split at h
  ·cases h
  split at h
  ·cases h
  split at h
  ·cases h
  rename_i h1 h2 b;rw [if_neg h1,if_neg h2,if_neg b];exact zy4 l (e::p) r h
theorem zt0 {l:List Ev}(h:Du (l++r)=0):Du l=0:=by
 unfold Du at h ⊢;split at h
 ·cases h
 ·rename_i q;rw [length_append] at q;rw [if_neg (by omega)];exact zy4 l [] r h
structure GS (a:Aut) (l:List Ev):Prop where
 wf:WfA a
 few:FewA a
 ok:AOk a
 chk:Ir N0 a=some 0
 acheck:Mt N0 a=some 0
 str:Du l=0
 len:l.length<=12
 sm:(wiP 150 a l l [cf0] []).2.2=true
theorem GS.so {l:List Ev}(h:GS a l):y4g l:=zcn h.str
theorem GS.cx {l:List Ev}(h:GS a l):CxA a l:=⟨h.wf,h.ok,fun x b=>by have:=h.few.2 x b;omega,by have:=h.len;omega⟩
theorem GS.pre {l:List Ev}(h:GS a l)(i:Nat):Du (l.take i)=0:=by
 have:=h.str;rw [<-aK i l] at this;exact zt0 this
theorem GS.cxp {l:List Ev}(h:GS a l)(i:Nat):CxA a (l.take i):=⟨h.wf,h.ok,fun x b=>by have:=h.few.2 x b;omega,by have:=h.len;rw [aP];omega⟩
theorem GS.edges {l:List Ev}(h:GS a l):a.fEdges.length<=100:=by have:=h.few.1;omega
theorem GS.begin {l:List Ev}(h:GS a l)(i:Nat):∃ mp,HM (l.take i) mp/\G5 N0 a (l.take i)=some (some ⟨a,mp⟩,0):=by
 have j:=h.len;obtain ⟨q,b,f⟩:=zp6 a h.wf (l.take i) (by rw [aP];omega);have g:q=0:=by
  unfold H6 at b;rw [h.chk,A3,Aj,A5,if_pos rfl,zw3 N0 _ (by grind) (by rw [aP];omega),A3,h.pre i] at b;exact (aF b).symm
 simp_all
theorem zm2 {l:List Ev}(h:GS a l)(i:Nat):F4 N0 a (l.take i)=some 0:=by
 have b:=h.len;unfold F4;rw [h.acheck,A3,Aj,A5,if_pos rfl,y36 N0 _ (by grind) (by decide) (by rw [aP];omega),A3,h.pre i]
structure Gd57 (a:Aut) (l:List Ev) (i:Nat) (c:Cf):Prop where
 cb:CB l a (i+20) c
 ci:CIv a (l.drop i) c
theorem CB.mono {l:List Ev}{m:Nat}(h:CB l a k c)(b:k<=m):CB l a m c:=⟨h.st,h.bd,h.ss,aR h.lb b,aR h.ls (Nat.mul_le_mul_left _ b)⟩
theorem gd0 {l:List Ev}(h:GS a l):Gd57 a l 0 cf0:=⟨(cb0 h.ok).mono (aA _),by simp,fun b g=>by simp at g,fun s f=>by simp at f⟩
variable {i:Nat}
theorem Gd57.held {l:List Ev}(h:GS a l)(f:Gd57 a l i c):CB (l.take i) a (i+20) c:=by
 refine ⟨f.cb.st,fun b g=>⟨(f.cb.bd b g).1,?_⟩,f.cb.ss,f.cb.lb,f.cb.ls⟩;have h1:=(f.cb.bd b g).2;rw [<-aK i l,zx5] at h1;cases j:lkH (l.take i) b.fRef with
 |some e=>rfl
 |none =>
  rw [j] at h1;obtain ⟨e,m⟩:=aQ.1 h1;obtain ⟨o,n⟩:=zi7 (by simpa using m);have:=f.ci.bef b g e n;rw [o] at this;have:=Jk.lt_ne this;exact absurd rfl this
theorem Gd57.ok {l:List Ev}(h:GS a l)(hi:i<=12)(b:Gd57 a l i c):cfOk c=true:=b.cb.sz.ok (by omega)
theorem Gd57.cs {l:List Ev}(h:GS a l)(hi:i<=12)(b:Gd57 a l i c):CS (Bb a) c:=by
 have h1:=b.cb.st;have h2:=b.cb.lb;have f:=b.cb.ls;exact ⟨by rw [(Nt a).1.len];exact h1,by omega,by omega⟩
theorem y47 {l:List Ev}(hi:i<l.length):l.drop i=l[i]::l.drop (i+1):=aC hi
theorem zz4 {l:List Ev}(h:Str Co l)(i:Nat):Str Co (l.drop i):=Pairwise.sublist (drop_sublist i l) h
theorem Gd57.next {l:List Ev}(h:GS a l)(hi:i<l.length){cs:List Cf}(j:∀ c∈cs,Gd57 a l i c):∀ d∈cfN a l cs l[i],Gd57 a l (i+1) d:=fun d g=>by
 have so:=h.so;have e:=y47 hi;refine ⟨(y26 h.cx so.st (fun c b=>(j c b).cb) (aD hi) d g).mono (by omega),?_⟩;have f:=zz4 so.st i;rw [e] at f;refine y6j h.ok f (so.pl _ (aD hi)) (fun c b=>?_) d g;have:=(j c b).ci;rw [e] at this;exact this
theorem Gd57.lk {l:List Ev}(h:GS a l){cs:List Cf}(j:∀ c∈cs,Gd57 a l i c):∀ c∈cs,∀ b∈c.fBindings,lkH (l.take i) b.fRef=lkH l b.fRef :=
 y7n h.so.st (fun y g=>mem_of_mem_take g) (fun c f=>(j c f).held h)
theorem y7g {l:List Ev}(h:GS a l)(hi:i<l.length):∀ y∈l.take i,Bm y=Bm l[i]->y=l[i]:=fun y g f=>by
 have b:=h.so.st;obtain ⟨j,m,rfl⟩:=mem_iff_getElem.1 g;rw [aP] at m;rw [getElem_take] at f;have:=aL.1 b j i (by omega) hi (by omega);exact absurd f (Jk.lt_ne this)
variable {mp:List (Rf×Ev)}
theorem y5u {l:List Ev}(h:GS a l)(hi:i<l.length)(hm:HM (l.take i) mp){cs:List Cf}(g:∀ c∈cs,Gd57 a l i c)(m:cs.length<=5000):Iu N0 ⟨a,mp⟩ cs l[i]=some (cfN a l cs l[i],maN a l cs l[i]):=by
 have j:=h.len;have b:=zwl (r:=⟨a,mp⟩) (h.cxp i) hm (by omega:i+20<=1000) (y7g h hi) h.edges cs (fun c f=>(g c f).held h) m;rw [zy9 (Gd57.lk h g),zx1 (Gd57.lk h g)] at b;exact b
theorem ztk {l:List Ev}(h:GS a l)(hi:i<=l.length)(hm:HM (l.take i) mp)(b:Gd57 a l i c):Eh N0 ⟨a,mp⟩ c=some 0 :=
 zzs (r:=⟨a,mp⟩) hm (by have:=h.len;omega:i+20<=1000) (b.held h) b.ci
theorem zzz {l:List Ev}(h:GS a l)(hi:i<l.length){cs:List Cf}(f:∀ c∈cs,Gd57 a l i c)(j:cs.length<=5000):Ni N0 cs l[i]=some 0:=by
 have g:=h.len;refine y5h (a:=a) (r:=l.drop (i+1)) (h.so.pl _ (aD hi)) cs (by omega) (fun c b=>by have:=(f c b).cb.lb;omega) (fun c b=>?_);have:=(f c b).ci;simp_all
theorem zzn {l:List Ev}(h:GS a l)(hi:i<l.length)(f:Gd57 a l i c):Wk N0 a (l.take i) c l[i]=some (cfN a l [c] l[i],maN a l [c] l[i],0):=by
 obtain ⟨mp,hm,g⟩:=h.begin i;have b:∀ d∈[c],Gd57 a l i d:=fun d j=>by simp_all
 unfold Wk bndP;rw [g];simp only [Aj,A5];rw [if_pos trivial,ztk h (by omega) hm f,A3,if_pos rfl,zzz h hi b (by simp),A3,if_pos rfl,y5u h hi hm b (by simp),A3]
theorem zrg (a b:List Sta)(g:a.length=b.length)(j:a.length<=1000000):∀ (m k:Nat),k<=a.length->a.length<m+k->Qq N0 b a (some true) m (k:Int)=some (decide (a.drop k=b.drop k))
 |0,k,h1,h2=>by omega
 |m+1,k,h1,h2=>by
  unfold Qq;have e:∀ x y:Sta,(decide (x.fScope=y.fScope) && (decide (x.fTime=y.fTime) && true))=decide (x=y):=fun x y=>by
   obtain ⟨v,t⟩:=x;obtain ⟨v',n⟩:=y;simp
  simp only [aB,A5,e];by_cases h:k<a.length
  ·have f:k<b.length:=by omega
   rw [if_pos (by omega),A9 h,A9 f,aC h,aC f,Ae k (by omega)];have o:=zrg a b g j m (k+1) (by omega) (by omega);rw [Aj,A5];by_cases e:a[k]=b[k]
   ·have q:(a[k]::a.drop (k+1)=b[k]::b.drop (k+1)) ↔ a.drop (k+1)=b.drop (k+1):=⟨fun h=>(List.cons.inj h).2,fun h=>by rw [e,h]⟩;simp_all
   ·have q:¬(a[k]::a.drop (k+1)=b[k]::b.drop (k+1)):=fun h=>e (List.cons.inj h).1
    rw [if_neg e,decide_eq_false q]
  grind
theorem y7a (a b:List Sta)(f:a.length<=1000000):Uw N0 a b=some (decide (a=b)):=by
 unfold Uw;simp only [aB,Aj,A5];by_cases h:a.length=b.length
 ·rw [if_pos (by omega)];have:=zrg a b h f N0 0 (aA _) (by unfold N0;omega);simpa using this
 ·rw [if_neg (by omega)];have:a≠b:=fun e=>h (by rw [e])
  simp [this]
theorem zhs (c d:Cf)(h1:c.fBindings.length<=1000000)(h2:c.fStarts.length<=1000000):Vj N0 c d=some (decide (c=d)):=by
 unfold Vj;simp only [Ax,Am,Iy,A5,y5n _ _ h1,y7a _ _ h2,A3];obtain ⟨s,b,t⟩:=c;obtain ⟨g,h,f⟩:=d;simp only [A0.mk.injEq];grind
theorem zwg (c d:Cf)(h1:c.fBindings.length<=1000000)(h2:c.fStarts.length<=1000000)(n:d.fBindings.length<=1000000)(m:d.fStarts.length<=1000000):∃ v:Int,Ui N0 c d=some v/\(v<0 ↔ Bj c d<0):=by
 have oc:cfOk c=true:=(E8 c).2 ⟨by omega,by omega⟩;have od:cfOk d=true:=(E8 d).2 ⟨by omega,by omega⟩;unfold Ui;rw [y58 N0 (by decide) [c,d] (fun x o=>by
  grind) (by simp),A3]
 have key:∀ s:List Cf,Str Bj s->(∀ x,x∈s ↔ x∈[c,d])->setL Bj [c,d]=s:=fun s g hm=>(zut cfCmp_to (fun x=>(hm x).symm)).trans (zo9 cfCmp_to g)
 rcases cfCmp_to.one c d with h|heq|j
 ·have e:=key [c,d] (by simp [Str];omega) (fun x=>Iff.rfl);rw [e];simp only [length_cons,length_nil,Ax,Am,Gv,A5,Aj,aB,Ap,Aq,Wv,zhs c c h1 h2,A3];refine ⟨-1,?_,by omega⟩;simp [Ap,Aq,Wv,zhs c c h1 h2,A3]
 ·have f:=(cfCmp_to.zero c d).1 heq;subst f;have e:=key [c] (by simp [Str]) (fun x=>by simp);rw [e];refine ⟨0,?_,by omega⟩;simp [Ax,Am,Gv,A5,Ap,Aq]
 ·have p:=cfCmp_to.neg c d;have e:=key [d,c] (by simp [Str];omega) (fun x=>by simp [or_comm]);rw [e];have b:¬d=c:=fun q=>by
   simp_all
  refine ⟨1,?_,by omega⟩;simp [Ax,Am,Gv,A5,Ap,Aq,Wv,zhs d c n m,A3,b]
def covd (R:List Mp)(l:List Cf)(d:Cf):Bool:=l.any (fun c=>cov R c d)
variable {R:List Mp}
theorem zwa (j:l.length<=1000000)(b:∀ c∈l,CS R c)(f:CS R d):∀ (m k:Nat),k<=l.length->l.length<m+k->∃ y:Int,K9 N0 d R l (some (-1)) m (k:Int)=some y/\(0<=y ↔ covd R (l.drop k) d=true)
 |0,k,h1,h2=>by omega
 |m+1,k,h1,h2=>by
  unfold K9 Xq;simp only [aB,A5];by_cases h:k<l.length
  ·obtain ⟨y,n,g⟩:=zwa j b f m (k+1) (by omega) (by omega);rw [if_pos (by omega),A9 h,y7e (b _ (aD h)) f,A3,A3,aC h,Ae k (by omega)];unfold covd at g ⊢;rw [any_cons];cases o:cov R l[k] d
   ·rw [Aq];simp_all
   ·rw [Ap];exact ⟨k,rfl,by simp⟩
  ·rw [if_neg (by omega),aH (by omega)];exact ⟨-1,rfl,by simp [covd]⟩
theorem zm0 (g:l.length<=1000000)(f:∀ c∈l,CS R c)(h:CS R d):R7 N0 l d R=some (covd R l d):=by
 obtain ⟨y,b,j⟩:=zwa g f h N0 0 (aA _) (by unfold N0;omega);unfold R7 Xf Xo;have e:K9 N0 d R l (some (-1)) N0 0=some y:=by simpa using b
 rw [e,A3,A3];simp_all
variable {S:List (List Cf)}
theorem zw9 (hi:i+1<S.length)(f:i<=1000)(j:S[i+1].length<=1000000)(b:∀ c∈S[i+1],CS R c)(n:l.length<=1000000)(g:∀ c∈l,CS R c):∀ (m k:Nat),k<=l.length->l.length<m+k->∃ y:Int,K8 N0 (i:Int) ⟨S⟩ R l (some (-1)) m (k:Int)=some y/\(y<0 ↔ (l.drop k).all (covd R S[i+1])=true)
 |0,k,h1,h2=>by omega
 |m+1,k,h1,h2=>by
  unfold K8 Y1;simp only [aB,A5];by_cases h:k<l.length
  ·obtain ⟨y,p,o⟩:=zw9 hi f j b n g m (k+1) (by omega) (by omega);rw [if_pos (by omega),A9 h,Ae i (by omega),A9 hi,zm0 j b (g _ (aD h)),A3,A3,aC h,Ae k (by omega),all_cons];cases q:covd R S[i+1] l[k]
   ·rw [show (!false)=true from rfl,Ap];exact ⟨k,rfl,by simp⟩
   ·rw [show (!true)=false from rfl,Aq];simp_all
  ·rw [if_neg (by omega),aH (by omega)];exact ⟨-1,rfl,by simp⟩
theorem zwf (hi:i+1<S.length)(b:i<=1000)(m:S[i+1].length<=1000000)(f:∀ c∈S[i+1],CS R c)(j:l.length<=1000000)(h:∀ c∈l,CS R c):Ta N0 l R ⟨S⟩ (i:Int)=some (!l.all (covd R S[i+1])):=by
 obtain ⟨y,g,n⟩:=zw9 hi b m f j h N0 0 (aA _) (by unfold N0;omega);unfold Ta Xn;have e:K8 N0 (i:Int) ⟨S⟩ R l (some (-1)) N0 0=some y:=by simpa using g
 rw [e,A3];grind
theorem zy6 (a:Aut)(held:List Ev)(c:Cf)(e:Ev):(cfN a held [c] e).length<=a.fEdges.length+1:=by
 unfold cfN;refine aR (Zk _) ?_;have:=Si (a:=a) (held:=held) (c:=c) (e:=e);have h2:(cfO (outP a held c e)).length<=(outP a held c e).length:=by unfold cfO;exact length_filter_le _ _
 simp;omega
noncomputable def okC (a:Aut)(l:List Ev)(S:List (List Cf))(i:Nat)(e:Ev)(c:Cf):Bool:=(maN a l [c] e).isEmpty && (cfN a l [c] e).all (covd (Bb a) (S.getD (i+1) []))
noncomputable def vOk (a:Aut)(l:List Ev)(S:List (List Cf)):List Ev->Nat->Bool |[],_=>true |e::r,i=>(S.getD i []).all (okC a l S i e) && vOk a l S r (i+1)
theorem Zg (a:Aut)(l:List Ev)(S:List (List Cf))(e:Ev)(r:List Ev)(i:Nat):vOk a l S (e::r) i=((S.getD i []).all (okC a l S i e) && vOk a l S r (i+1)):=rfl
structure G9 (a:Aut) (l:List Ev) (S:List (List Cf)):Prop where
 ln:S.length=l.length+1
 few:∀ i (hi:i<S.length),S[i].length<=4096
 gd:∀ i (hi:i<S.length),∀ c∈S[i],Gd57 a l i c
theorem G9.cs {l:List Ev}(h:GS a l)(b:G9 a l S)(hi:i<S.length):∀ c∈S[i],CS (Bb a) c:=fun c f=>(b.gd i hi c f).cs h (by have:=b.ln;have:=h.len;omega)
theorem zr2 {l:List Ev}(h:GS a l)(j:G9 a l S)(hi:i<l.length)(g:i<S.length)(K:Option Int):∀ (m k:Nat),k<=S[i].length->S[i].length<m+k->Gz N0 ⟨S⟩ l a (Bb a,(i:Int)) l[i] S[i] K m (k:Int)=if (S[i].drop k).all (okC a l S i l[i])=true then K else some 18
 |0,k,h1,h2=>by omega
 |m+1,k,h1,h2=>by
  have y:=j.few i g;have v:=h.len;have u:=j.ln;unfold Gz;simp only [aB,A5,Aj,Ax,Am,Iq];by_cases s:k<S[i].length
  ·have x:=j.gd i g _ (aD s);have p:∀ (K:List Ev->Option Int),sls l 0 (i:Int) K=K (l.take i):=fun K=>by
    have:=Ea (l:=l) (a:=0) (b:=i) (aA _) (by omega) K;simpa using this
   rw [if_pos (by omega),A9 s,p,zzn h hi x,A3,if_pos rfl,aC s,all_cons,Ae k (by omega)];have t:=zr2 h j hi g K m (k+1) (by omega) (by omega);have w:S.getD (i+1) []=S[i+1]'(by omega):=by rw [aJ,aM (by omega)];rfl
   have q:=Gd57.next h hi (cs:=[S[i][k]]) (fun c n=>by simp_all);by_cases hm:maN a l [S[i][k]] l[i]=[]
   ·have o:=zwf (R:=Bb a) (S:=S) (l:=cfN a l [S[i][k]] l[i]) (i:=i) (by omega) (by omega) (by have:=j.few (i+1) (by omega);omega) (j.cs h (by omega)) (by have:=zy6 a l S[i][k] l[i];have:=h.edges;omega) (fun c n=>(q c n).cs h (by omega));have f:okC a l S i l[i] S[i][k]=(cfN a l [S[i][k]] l[i]).all (covd (Bb a) (S[i+1]'(by omega))):=by unfold okC;rw [hm,w];simp
    rw [hm,if_neg (by simp),o,A3,f];cases z:(cfN a l [S[i][k]] l[i]).all (covd (Bb a) (S[i+1]'(by omega)))
    ·rw [show (!false)=true from rfl,Ap];simp
    ·rw [show (!true)=false from rfl,Aq,Bool.true_and];exact t
   ·have f:okC a l S i l[i] S[i][k]=false:=by
     unfold okC;rw [isEmpty_eq_false_iff.2 hm];rfl
    have:0<(maN a l [S[i][k]] l[i]).length:=length_pos_iff.2 hm;rw [if_pos (by simp_all),Ap,f,if_neg (by simp)]
  grind
theorem zr3 {l:List Ev}(h:GS a l)(f:G9 a l S):∀ (m i:Nat),i<=l.length->l.length<m+i->Ip N0 ⟨S⟩ l a (some 0) m (Bb a,(i:Int))=if vOk a l S (l.drop i) i=true then some 0 else some 18
 |0,i,h1,h2=>by omega
 |m+1,i,h1,h2=>by
  have n:=h.len;have j:=f.ln;unfold Ip;simp only [aB,A5];by_cases hi:i<l.length
  ·have b:i<S.length:=by omega
   have p:=f.few i b;rw [if_pos (by omega),A9 hi,A9 b,Ae i (by omega)];have g:=zr2 h f hi b (Ip N0 ⟨S⟩ l a (some 0) m (Bb a,((i+1:Nat):Int))) N0 0 (aA _) (by unfold N0;omega);refine (g).trans ?_;have o:S.getD i []=S[i]:=by rw [aJ,aM b];rfl
   rw [zr3 h f m (i+1) (by omega) (by omega),aV,aC hi];rw [Zg,o];grind
  ·rw [if_neg (by omega),aH (by omega)];rfl
theorem cs0 {l:List Ev}(h:GS a l):CS (Bb a) cf0:=(gd0 h).cs h (by omega)
theorem zr1 {l:List Ev}(h:GS a l)(f:G9 a l S)(v:J4 N0 a l ⟨S⟩=some 0):E4 N0 a l ⟨S⟩=some (if (covd (Bb a) (S.getD 0 []) cf0 && vOk a l S l 0)=true then 0 else 18):=by
 have s:=h.len;have p:=f.ln;have g:0<S.length:=by omega
 have t:S.getD 0 []=S[0]:=by rw [aJ,aM g];rfl
 have b:=zm2 h l.length;rw [take_length] at b;have q:R6 N0 a=some (Bb a):=by
  unfold R6;rw [zti h.wf h.ok (fun x o=>(h.wf.ed x o).lc),A3]
 have m:∀ (K:List Cf->Option Int),idx S 0 K=K S[0]:=fun K=>by
  have:=A9 (l:=S) (i:=0) g K;simpa using this
 have n:=zr3 h f N0 0 (aA _) (by unfold N0;omega);have j:Ip N0 ⟨S⟩ l a (some 0) N0 (Bb a,0)=if vOk a l S l 0=true then some 0 else some 18:=by simpa using n
 unfold E4;have u:=f.few 0 g;have w:Jc N0=some cf0:=rfl;rw [b,A3,Aj,A5,if_pos rfl,v,A3,Aj,A5,if_pos rfl,q,Ce,zs8,zs8,Am,m,w,A3,zm0 (by omega) (f.cs h g) (cs0 h),A3,j,t];cases covd (Bb a) S[0] cf0
 ·rw [show (!false)=true from rfl,Ap];simp
 ·rw [show (!true)=false from rfl,Aq];cases vOk a l S l 0<;>simp
theorem y1o {α:Type}[DecidableEq α]:∀ {l m:List α},l.Nodup->(∀ x∈l,x∈m)->l.length<=m.length
 |[],m,_,_=>by simp
 |x::r,m,h1,h2=>by
  have f:=h2 x (by simp);have g:=nodup_cons.1 h1;have h:=y1o (m:=m.erase x) g.2 (fun y b=>(mem_erase_of_ne (fun e=>g.1 (by rw [<-e];exact b))).2 (h2 y (aG _ b)));rw [length_erase_of_mem f] at h;have:0<m.length:=length_pos_of_mem f;simp only [length_cons];omega
theorem y4s {α:Type}{c:α->α->Int}(h:TO c){l:List α}(f:Str c l):l.Nodup:=by
 refine Pairwise.imp (fun {x y} b e=>?_) f;subst e;have:=(h.zero x x).2 rfl;omega
theorem y19 {held:List Ev}:∀ (p r:List Ev) (cs:List Cf) (b:List Ma),(wiP 150 a held (p++r) cs b).2.2=true->(wiP 150 a held p cs b).2.2=true
 |[],r,cs,b,h=>rfl
 |f::p,r,cs,b,h=>by
  rw [aT] at h;unfold wiP at h ⊢;split at h
  ·cases h
  ·rename_i q;rw [if_neg q];exact y19 p r _ _ h
noncomputable def xsI (a:Aut)(l:List Ev)(i:Nat):List Cf:=(wiP 150 a l (l.take i) [cf0] []).1
noncomputable def msI (a:Aut)(l:List Ev)(i:Nat):List Ma:=(wiP 150 a l (l.take i) [cf0] []).2.1
theorem y4m {l:List Ev}(h:GS a l)(i:Nat):wiP 150 a l (l.take i) [cf0] []=(xsI a l i,msI a l i,true):=by
 have h1:=h.sm;rw [<-aK i l] at h1;have h2:=y19 (l.take i) (l.drop i) [cf0] [] (by rw [aK] at h1 ⊢;exact h1);unfold xsI msI;rw [<-h2]
theorem Zw (a:Aut)(l:List Ev):xsI a l 0=[cf0]/\msI a l 0=[]:=by unfold xsI msI;rw [take_zero];exact ⟨rfl,rfl⟩
theorem Wz {l:List Ev}(h:GS a l)(hi:i<l.length):xsI a l (i+1)=cfN a l (xsI a l i) l[i]/\msI a l (i+1)=puts Bh (msI a l i) (maN a l (xsI a l i) l[i])/\(xsI a l (i+1)).length<=150/\(msI a l (i+1)).length<=150:=by
 have e:l.take (i+1)=l.take i++[l[i]]:=by rw [take_append_getElem]
 have h1:=y4m h (i+1);rw [e] at h1;obtain ⟨x,m,p,g,n,f⟩:=zqj (l.take i) [cf0] [] (by rw [h1]);rw [y4m h i] at p;injection p with w1 j
 injection j with j _
 rw [<-w1] at g n f;rw [<-j] at g f;rw [h1] at g;injection g with o b
 injection b with b _
 rw [<-o] at n;rw [<-b] at f;exact ⟨o,b,n,f⟩
theorem y4n {l:List Ev}(h:GS a l)(hi:i<=l.length):(xsI a l i).length<=150:=by
 cases i with
 |zero=>rw [(Zw a l).1];simp
 |succ i=>exact (Wz h (by omega)).2.2.1
theorem y2a {l:List Ev}(h:GS a l):∀ {i:Nat},i<=l.length->∀ c∈xsI a l i,Gd57 a l i c
 |0,hi=>fun c b=>by
  rw [(Zw a l).1] at b;rw [aE.1 b];exact gd0 h
 |i+1,hi=>fun c b=>by
  rw [(Wz h (by omega)).1] at b;exact Gd57.next h (by omega) (y2a h (by omega)) c b
theorem y15 {held:List Ev}{cs xs:List Cf}(h:∀ c∈cs,c∈xs)(e:Ev):∀ d∈cfN a held cs e,d∈cfN a held xs e:=fun d b=>by
 unfold cfN at b ⊢;rw [Dk cfCmp_to,aS] at b ⊢;obtain ⟨c,h1,h2⟩:=b;exact ⟨c,h c h1,h2⟩
structure Sb (a:Aut) (l:List Ev) (i:Nat) (cs:List Cf):Prop where
 sub:∀ c∈cs,c∈xsI a l i
 str:Str Bj cs
theorem Sb.len {l:List Ev}(h:GS a l)(hi:i<=l.length){cs:List Cf}(b:Sb a l i cs):cs.length<=150 :=
 aR (y1o (y4s cfCmp_to b.str) b.sub) (y4n h hi)
theorem Sb.gd {l:List Ev}(h:GS a l)(hi:i<=l.length){cs:List Cf}(f:Sb a l i cs):∀ c∈cs,Gd57 a l i c:=fun c b=>y2a h hi c (f.sub c b)
theorem Sb.next {l:List Ev}(h:GS a l)(hi:i<l.length){cs:List Cf}(b:Sb a l i cs):Sb a l (i+1) (cfN a l cs l[i]) :=
 ⟨by rw [(Wz h hi).1];exact y15 b.sub _,Ws cfCmp_to _⟩
theorem zu3:R1 2000000000=some true:=by kernel_rfl
theorem GS.of (g:WfA a){l:List Ev}(h1:M3 N0 a l=some true)(h2:Fy N0 a l=some 0):GS a l:=by
 obtain ⟨b,s,B⟩:=zov a g l;rw [h1] at s;obtain rfl:=aF s;obtain ⟨y,x,q,j,w⟩:=B rfl;have o:q=0:=by
  have e:H6 N0 a l=Fy N0 a l:=by unfold H6 Fy;rfl
  rw [e,h2] at j;exact (aF j).symm
 obtain ⟨p,n,u⟩:=zp6 a g l (by omega);rw [j] at n;obtain rfl:=aF n;rcases u with ⟨A,_⟩|⟨_,z,v,f,h,_⟩
 ·exact absurd o A
 obtain ⟨r,m,t,C⟩:=zhz N0 (by decide) a g;rw [f] at m;obtain rfl:=aF m;exact ⟨g,y,z,f,t,h,x,w o⟩
def NM (a:Aut)(l:List Ev)(i:Nat):Prop:=∀ j,i<=j->(b:j<l.length)->maN a l (xsI a l j) l[j]=[]
theorem zvd {s m:List Ma}:puts Bh s m=[] ↔ s=[]/\m=[]:=by
 constructor
 ·intro h;have k:=fun z=>Wt Ek z m s
  rw [h] at k;exact ⟨aO.2 (fun z b=>by simp_all),aO.2 (fun z b=>by have:=(k z).2 (Or.inr b);simp at this)⟩
 ·rintro ⟨rfl,rfl⟩;rfl
theorem y5x {l:List Ev}(h:GS a l):msI a l l.length=[] ↔ NM a l 0:=by
 have key:∀ i,i<=l.length->(msI a l i=[] ↔ ∀ j,(b:j<l.length)->j<i->maN a l (xsI a l j) l[j]=[]):=by
  intro i
  induction i with
  |zero=>intro _;rw [(Zw a l).2];simp
  |succ i g =>
   intro hi;rw [(Wz h (by omega)).2.1,zvd,g (by omega)];grind
 rw [key l.length (Nat.le_refl _)];exact ⟨fun f j _ b=>f j b b,fun f j b _=>f j (aA _) b⟩
noncomputable def tS (f:List Cf->List Cf)(a:Aut)(l:List Ev):List Ev->List Cf->List (List Cf) |[],_=>[] |e::r,cs=>f (cfN a l cs e)::tS f a l r (f (cfN a l cs e))
structure Ch (a:Aut) (l:List Ev) (f:List Cf->List Cf):Prop where
 sub:∀ i cs,Sb a l i cs->Sb a l i (f cs)
 cov:∀ cs,∀ c∈cs,covd (Bb a) (f cs) c=true
theorem zdo {l:List Ev}(h:GS a l):F4 N0 a l=some 0:=by
 have:=zm2 h l.length;simp_all
end Go.Proofs.YtidhlpjgifoneaaGreat
