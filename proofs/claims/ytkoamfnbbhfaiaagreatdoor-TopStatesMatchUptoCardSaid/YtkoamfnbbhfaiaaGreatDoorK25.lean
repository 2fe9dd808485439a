/- TopStatesMatch, plainly. -/
import Derived.Test.YtkoamfnbbhfaiaaGreatDoorK24
set_option linter.unusedVariables false
set_option linter.unusedSimpArgs false
set_option maxRecDepth 100000
set_option maxHeartbeats 8000000
namespace Go.Proofs.YtkoamfnbbhfaiaaGreatDoor
open Go.RowKit List
open LeX renaming a->aA,trans->aJ,adopt->aK
open CI renaming w->aB
open List renaming length_map->aC,getElem?_eq_getElem->aG,length_replicate->aM,replicate->aR,getElem_mem->aU,filter_cons->aV,getElem?_replicate->aY,getElem?_set_self->bB,length_filter_le->bE
open RetX renaming oB->aD
open AW renaming step->aE,stepU->aH,regO->aN,jI->bG
open Nat renaming le_refl->aF,zero_le->bF
open IdxX renaming oD->aL,A->aT
open Ac renaming o->aO,t->bK,f->bP
open AppX renaming oA->aP
open B5 renaming I->aQ
open Ag renaming I->aS,o->bO
open ConG renaming walk->aW,up->bL
open EqX renaming A->bA
open _root_.Go.Proofs.Tryz renaming prog->bC,func48->bH,func49->bI,func50->bJ,func351->bR,func352->bS,func353->bT,func354->bU,func355->bV,ntmps49->bW,ntmps50->bX
theorem zg9 (n:Nat)(rF:Exn->Exn->Option Bool)(e:Exn)(ys:List Exn)(ha:e.fArgs=ys.map Al)(c:ys.length<=4000000)(rec:∀ y∈ys,rF y y=some true):∀ (m k:Nat),k<=ys.length->ys.length<m+k->Q7 n rF e e (some true) m (k:Int)=some true
 |0,k,h1,d=>by omega
 |m+1,k,h1,d=>by
  unfold Q7;rw [ha];simp only [aC,A3];by_cases h:k<ys.length
  ·rw [if_pos (by omega),R4 h,R4 h,rec _ (aU h),A1,Ad k (by omega),Af,Au];exact zg9 n rF e ys ha c rec m (k+1) (by omega) (by omega)
  ·rw [if_neg (by omega)]
theorem zxk:∀ (s:Nat) (e:Exn),ETr s e->s<=4000000->∀ n,s+4000002<n->D6 n e e=some true:=by
 intro s
 induction s using Nat.strongRecOn with
 |ind s IH =>
  intro e g k n m;cases g with
  |mk l e h ha =>
   obtain ⟨c,rfl⟩:∃ c,n=c + 1:=⟨n-1,by omega⟩;have o:=Qu (l:=l) (fun p d=>(h p d).pos);have j:e.fArgs=(l.map (·.2)).map Al:=by rw [ha,map_map];rfl
   have i:=zg9 c (D6 c) e (l.map (·.2)) j (by rw [aC];omega) (fun y f=>by
    obtain ⟨p,d,rfl⟩:=mem_map.1 f;have:=Je d;exact IH p.1 (by omega) p.2 (h p d) (by omega) c (by omega)) c 0 (by omega) (by rw [aC];omega)
   simp only [D6];simp only [B1,Ar,Af,A3,if_true,decide_true,Bool.true_and,beq_self_eq_true,Au,Bool.not_true];unfold Fk;simp only [B3];exact i
theorem WfE.same {e:Exn}(h:WfE e)(n:Nat)(f:10000000<n):D6 n e e=some true:=by
 obtain ⟨z,c,d⟩:=h;exact zxk z e d c n (by omega)
theorem zby (n:Nat)(c:10000000<n)(g:List Gd)(d:g.length<=1100000)(hw:∀ x∈g,WfE x.fCond):∀ (m k:Nat),k<=g.length->g.length<m+k->Np n g g (some true) m (k:Int)=some true
 |0,k,h1,f=>by omega
 |m+1,k,h1,f=>by
  unfold Np;simp only [aC,A3];by_cases h:k<g.length
  ·have e:Rr n g[k] g[k]=some true:=by
    unfold Rr;simp only [B1,Ar,A3,if_true,(hw _ (aU h)).same n c,A1,Gv]
   rw [if_pos (by omega),Ab h,Ab h,e,A1,Ad k (by omega),Af,Au];exact zby n c g d hw m (k+1) (by omega) (by omega)
  ·rw [if_neg (by omega)]
theorem zv6 (n:Nat)(c:10000000<n)(g:List Gd)(d:g.length<=1100000)(hw:∀ x∈g,WfE x.fCond):P2 n g g=some true:=by
 unfold P2 Vg;rw [Af,A3,if_pos rfl];have:=zby n c g d hw n 0 (by omega) (by omega);simp only [Int.natCast_zero] at this;rw [this,A1]
theorem z89 (n:Nat)(c:10000000<n)(ys:List Exn)(d:ys.length<=1100000)(hw:∀ x∈ys,WfE x):∀ (m k:Nat),k<=ys.length->ys.length<m+k->Ni n (ys.map Al) (ys.map Al) (some true) m (k:Int)=some true
 |0,k,h1,e=>by omega
 |m+1,k,h1,e=>by
  unfold Ni;simp only [aC,A3];by_cases h:k<ys.length
  ·rw [if_pos (by omega),R4 h,R4 h,(hw _ (aU h)).same n c,A1,Ad k (by omega),Af,Au];exact z89 n c ys d hw m (k+1) (by omega) (by omega)
  ·rw [if_neg (by omega)]
theorem zbx (n:Nat)(l:List Int)(c:l.length<=1100000):∀ (m k:Nat),k<=l.length->l.length<m+k->P0 n l l (some true) m (k:Int)=some true
 |0,k,h1,d=>by omega
 |m+1,k,h1,d=>by
  unfold P0;simp only [aC,A3];by_cases h:k<l.length
  ·rw [if_pos (by omega),Ab h,Ab h,Ad k (by omega),Af,A3,if_pos rfl];exact zbx n l c m (k+1) (by omega) (by omega)
  ·rw [if_neg (by omega)]
theorem zjr (n:Nat)(l:List Int)(c:l.length<=1100000)(d:10000000<n):Ga n l l=some true:=by
 unfold Ga;rw [Af,A3,if_pos rfl];exact zbx n l c n 0 (by omega) (by omega)
theorem zbw (n:Nat)(l:List Bm)(c:l.length<=1100000):∀ (m k:Nat),k<=l.length->l.length<m+k->Oz n l l (some true) m (k:Int)=some true
 |0,k,h1,d=>by omega
 |m+1,k,h1,d=>by
  unfold Oz;simp only [aC,A3];by_cases h:k<l.length
  ·rw [if_pos (by omega),Ab h,Ab h,Ad k (by omega),Af];simp only [decide_true,Bool.true_and,Au];exact zbw n l c m (k+1) (by omega) (by omega)
  ·rw [if_neg (by omega)]
theorem zv5 (n:Nat)(l:List Bm)(c:l.length<=1100000)(d:10000000<n):Pp n l l=some true:=by
 unfold Pp;rw [Af,A3,if_pos rfl];exact zbw n l c n 0 (by omega) (by omega)
theorem zv7 (n:Nat)(d:10000000<n)(N:Nat)(x:Ed)(c:WfX x):Pm n x (rnE N x)=some true:=by
 obtain ⟨ys,j,hw⟩:=c.checks;have i:ys.length<=1100000:=by have:=c.lc;rw [j,aC] at this;exact this
 have m:Oh n x.fChecks x.fChecks=some true:=by
  unfold Oh;rw [Af,A3,if_pos rfl,j];exact z89 n d ys i hw n 0 (by omega) (by omega)
 unfold Pm;show jon _ (reg (cnd (decide (x.fVar=x.fVar)) (cnd (decide (x.fType=x.fType)) (bnd (D6 n x.fCond x.fCond) fun l=>cnd l (bnd (Oh n x.fChecks x.fChecks) fun k=>cnd k (bnd (Ga n x.fOpens x.fOpens) fun h=>cnd h (bnd (Ga n x.fCloses x.fCloses) fun g=>cnd g (bnd (Ga n x.fInside x.fInside) fun f=>cnd f (bnd (Pp n x.fLimits x.fLimits) fun e=>E7 n e) _) _) _) _) _) _) _))=some true;rw [B1,Ar,A3,if_pos rfl,A3,if_pos rfl,c.cond.same n d,A1,Au,m,A1,Au,zjr n _ c.lo d,A1,Au,zjr n _ c.lcl d,A1,Au,zjr n _ c.li d,A1,Au,zv5 n _ c.ll d,A1];unfold E7;rfl
abbrev Pg:=Dt
structure PI (a b:Aut) (p:Pg):Prop where
 pa:p.fa=a
 pb:p.fb=b
 l1:p.fto.length=a.fStates.length
 l2:p.ffrom.length=a.fStates.length
 at_:∀ i:Nat,i<a.fStates.length->(p.fto[i]? = some (-1)/\p.ffrom[(tau a.fStates.length i).toNat]? = some (-1))\/(p.fto[i]? = some (tau a.fStates.length i)/\p.ffrom[(tau a.fStates.length i).toNat]? = some (i:Int))
def opn (p:Pg):Nat:=(p.fto.filter (fun t=>decide (t<0))).length
theorem zop (v:Int)(d:0<=v):∀ (l:List Int) (i:Nat),l[i]? = some (-1)->((l.set i v).filter (fun t=>decide (t<0))).length+1=(l.filter (fun t=>decide (t<0))).length
 |[],i,h=>by simp at h
 |x::l,0,h=>by
  simp only [getElem?_cons_zero,Option.some.injEq] at h;subst h;rw [set_cons_zero,aV,aV,if_neg (by simp;omega),if_pos (by simp)];rfl
 |x::l,i+1,h=>by
  have c:=zop v d l i (by simpa using h);rw [set_cons_succ,aV,aV];split
  ·simp only [length_cons];omega
  ·exact c
section
variable {a b:Aut} (hw:WfA a) (ha:AOk a) (hwb:WfA b) (H:Rn a b) (hle:a.fEdges.length<=1000) (hleb:b.fEdges.length<=1000)
include hw ha hwb H hle hleb
theorem zgk (n:Nat)(B:10000000<n)(d:Nat)(rF:Int->Int->Pg->Option (Bool×Pg))(s:Int)(o:0<=s)(l:s<a.fStates.length)
  (rec:∀ p,PI a b p->opn p<=d->∀ t:Int,-1<=t->t<a.fStates.length->∃ c,rF t (tau a.fStates.length t) p=some (true,c)/\PI a b c/\opn c<=opn p) :
  ∀ (m k:Nat) (p:Pg),k<=(lv s a.fEdges 0).length->(lv s a.fEdges 0).length<m+k->PI a b p->opn p<=d->∃ c,N7 n rF (lv s a.fEdges 0) (lv (tau a.fStates.length s) b.fEdges 0) (fun N M L K J I G F E D=>some (true,⟨⟨N,M,L,K⟩,⟨J,I,G,F⟩,E,D⟩)) m ((k:Int),a.fVars,a.fScopes,a.fStates,a.fEdges,b.fVars,b.fScopes,b.fStates,b.fEdges,p.fto,p.ffrom)=some (true,c)/\PI a b c/\opn c<=opn p
 |0,k,p,h1,W,f,C=>by omega
 |m+1,k,p,h1,W,f,C=>by
  have U:(lv s a.fEdges 0).length<=a.fEdges.length:=by rw [Fa];exact bE _ _
  have V:(lv (tau a.fStates.length s) b.fEdges 0).length=(lv s a.fEdges 0).length:=by
   rw [Fa,Fa];show (Bk b (tau a.fStates.length s)).length=(Bk a s).length;rw [H.ed s o l,aC]
  unfold N7;simp only [aC,A3];by_cases h:k<(lv s a.fEdges 0).length
  ·have r:k<(lv (tau a.fStates.length s) b.fEdges 0).length:=by omega
   obtain ⟨j,A,T,z,y⟩:=zk6 h;obtain ⟨q,x,Z,w,R⟩:=zk6 r;have i:=Hj (aU T);have e:b.fEdges[q]=rnE a.fStates.length (Bk a s)[k]:=by
    rw [R];have:=H.ed s o l;simp only [this,getElem_map]
   obtain ⟨c,Q,g,Y⟩:=rec p f C (Bk a s)[k].fTo (ha.ed _ i.1).tgt.1 (ha.ed _ i.1).tgt.2;have eta:(⟨⟨a.fVars,a.fScopes,a.fStates,a.fEdges⟩,⟨b.fVars,b.fScopes,b.fStates,b.fEdges⟩,p.fto,p.ffrom⟩:Pg)=p:=by
    have v:=f.pa;have u:=f.pb;cases p;cases v;cases u;rfl
   rw [if_pos (by omega),Ab h,z,Ab A,Ab r,w,Ab x,y,e,zv7 n B _ _ (hw.ed _ i.1),A1,Af,Au,Ab h,z,Ab A,Ab r,w,Ab x,y,e,eta];show ∃ c,bndM 165 (rF (Bk a s)[k].fTo (tau a.fStates.length (Bk a s)[k].fTo) p) _=_/\_;rw [Q,D7,Ad k (by omega)];simp only [Af,Au,g.pa,g.pb];obtain ⟨S,P,O,X⟩:=zgk n B d rF s o l rec m (k+1) c (by omega) (by omega) g (by omega);exact ⟨S,P,O,by omega⟩
  ·rw [if_neg (by omega)];refine ⟨p,?_,f,aF _⟩;have v:=f.pa;have u:=f.pb;cases p;cases v;cases u;rfl
theorem zxn:∀ (d n:Nat),20000000+d<n->∀ p,PI a b p->opn p<=d->∀ s:Int,-1<=s->s<a.fStates.length->∃ v,I7 n s (tau a.fStates.length s) p=some (true,v)/\PI a b v/\opn v<=opn p:=by
 intro d
 induction d using Nat.strongRecOn with
 |ind d R =>
 intro n W p k X s S c;obtain ⟨h,rfl⟩:∃ h,n=h + 1:=⟨n-1,by omega⟩;simp only [I7];have y:=zjc (n:=a.fStates.length) c;have G:(!((decide (s<0)) == (decide (tau a.fStates.length s<0))))=false:=by
  have e:decide (tau a.fStates.length s<0)=decide (s<0):=decide_eq_decide.2 y;rw [e];cases decide (s<0)<;>rfl
 rw [G,B3,A3];by_cases f:s<0
 ·rw [if_pos f];exact ⟨p,rfl,k,aF _⟩
 rw [if_neg f];have f:0<=s:=by omega
 have w:=Ft f c;have Q:=k.l1;have P:=k.l2;have u:s.toNat<p.fto.length:=by omega
 have o:(tau a.fStates.length s).toNat<p.ffrom.length:=by omega
 have r:s.toNat<(p.fto.map aI).length:=by rw [aC];exact u
 have m:(tau a.fStates.length s).toNat<(p.ffrom.map aI).length:=by rw [aC];exact o
 have x:((s.toNat:Nat):Int)=s:=by omega
 have z:=k.at_ s.toNat (by omega);rw [x] at z;rw [Jg f r,Cv u,A3];rcases z with ⟨g,j⟩|⟨g,j⟩
 rotate_left
 ·rw [aG u] at g;rw [aG o] at j;injection g with g
  injection j with j
  rw [if_pos g,Jg w.1 m,Cv o,A3,if_pos j];exact ⟨p,rfl,k,aF _⟩
 have l:=zop (tau a.fStates.length s) w.1 p.fto s.toNat g;rw [aG u] at g;rw [aG o] at j;injection g with g
 injection j with j
 obtain ⟨L,J,U,Y⟩:=Uh (a:=a) ⟨f,c⟩;have I:=(H.st s f c).trans J;obtain ⟨w1,K⟩:=hw.st L U;have F:(lv (tau a.fStates.length s) b.fEdges 0).length=(lv s a.fEdges 0).length:=by
  rw [Fa,Fa];show (Bk b (tau a.fStates.length s)).length=(Bk a s).length;rw [H.ed s f c,aC]
 rw [if_neg (by rw [g];omega),Jg f r,Cv u,A3,if_neg (by rw [g];omega),Jg w.1 m,Cv o,A3,if_neg (by rw [j];omega),k.pa,k.pb,Qn f J,Qn w.1 I,zv6 h (by omega) _ w1 K,A1,Af,Au,Jg f r,Hn u,Jg w.1 m,Hn o,p_lv h (by omega) s a (by omega),A1,p_lv h (by omega) _ b (by omega),A1,Af,A3,if_pos (by rw [aC,aC,F])];have D:PI a b ⟨a,b,p.fto.set s.toNat (tau a.fStates.length s),p.ffrom.set (tau a.fStates.length s).toNat s⟩:=by
  refine ⟨rfl,rfl,by rw [length_set];exact Q,by rw [length_set];exact P,fun i hi=>?_⟩;by_cases e:i=s.toNat
  ·subst e;rw [x];exact Or.inr ⟨bB u,bB o⟩
  ·have ti:=Ft (n:=a.fStates.length) (i:=(i:Int)) (by omega) (by omega);have E:(tau a.fStates.length s).toNat≠(tau a.fStates.length i).toNat:=fun q=>by
    have O:tau a.fStates.length s=tau a.fStates.length i:=by omega
    have:=congrArg (tau a.fStates.length) O;rw [Fq c,Fq (by omega)] at this;omega
   simp only [getElem?_set_ne (Ne.symm e),getElem?_set_ne E];exact k.at_ i hi
 have l:opn ⟨a,b,p.fto.set s.toNat (tau a.fStates.length s),p.ffrom.set (tau a.fStates.length s).toNat s⟩+1=opn p:=l;obtain ⟨v,N,M,V⟩:=zgk hw ha hwb H hle hleb h (by omega) (d-1) (I7 h) s f c (fun q T C t B A=>R (d-1) (by omega) h (by omega) q T C t B A) h 0 ⟨a,b,p.fto.set s.toNat (tau a.fStates.length s),p.ffrom.set (tau a.fStates.length s).toNat s⟩ (bF _) (by
  have:(lv s a.fEdges 0).length<=a.fEdges.length:=by rw [Fa];exact bE _ _
  omega) D (by omega)
 exact ⟨v,N,M,by omega⟩
end
theorem zvp (a b:Aut)(f:List Int):∀ k:Nat,opn ⟨a,b,aR k (-1),f⟩=k:=fun k=>by
 unfold opn;rw [filter_eq_self.2 (fun x c=>by rw [(List.mem_replicate.1 c).2];rfl),aM]
theorem zy7 {a b:Aut}(f:D5 N0 a=some 0)(e:D5 N0 b=some 0)(K:Option (List Int×Bool×Int))(m:Nat):I8 N0 b a K (m+3) 0=K:=by
 have d:∀ k:Aut->Option (List Int×Bool×Int),idx [a,b] 0 k=k a:=fun k=>Ab (l:=[a,b]) (i:=0) (by simp) k
 have c:∀ k:Aut->Option (List Int×Bool×Int),idx [a,b] 1 k=k b:=fun k=>Ab (l:=[a,b]) (i:=1) (by simp) k
 have w0:IntKind.wrap .i64 (0+1)=1:=rfl;have w1:IntKind.wrap .i64 (1+1)=2:=rfl;unfold I8;rw [A3,if_pos (by decide),d,f,A1,Af,A3,if_pos rfl,w0];unfold I8;rw [A3,if_pos (by decide),c,e,A1,Af,A3,if_pos rfl,w1];unfold I8;rw [A3,if_neg (by decide)]
theorem zyy {a b:Aut}(hw:WfA a)(ha:AOk a)(hwb:WfA b)(H:Rn a b)(hle:a.fEdges.length<=1000)(hleb:b.fEdges.length<=1000)(o:a.fStates.length<=20)(k:D5 N0 a=some 0)(j:D5 N0 b=some 0):∃ r,L9 N0 a b=some (r,true,0):=by
 have h1:=ha.st.1;have rep:∀ c:Aut,c.fStates.length=a.fStates.length->Qr N0 [(-1)] ((c.fStates.map B6).length:Int)=some (aR a.fStates.length (-1)):=fun c h=>by
  unfold Qr;rw [aC,h,if_pos ⟨rfl,by omega,by omega⟩];rfl
 have d:PI a b ⟨a,b,aR a.fStates.length (-1),aR a.fStates.length (-1)⟩:=⟨rfl,rfl,aM,aM,fun i hi=>Or.inl ⟨by rw [aY,if_pos hi],by
  have:=Ft (n:=a.fStates.length) (i:=(i:Int)) (by omega) (by omega);show (aR a.fStates.length (-1:Int))[_]? = _;rw [aY,if_pos (by omega)]⟩⟩
 obtain ⟨g,e,m,l⟩:=zxn hw ha hwb H hle hleb a.fStates.length N0 (by unfold N0;omega) _ d (by rw [zvp];exact aF _) 0 (by omega) (by omega);have f:tau a.fStates.length 0=0:=rfl;rw [f] at e;refine ⟨g.fto,?_⟩;unfold L9;refine (zy7 k j _ 1999999997).trans ?_;rw [rep a rfl,Mg,rep b H.len,Mg,B1,Ar,Af,A3,if_pos H.vars.symm,Af,A3,if_pos H.scopes.symm,e,D7];unfold I9;exact B3 _ _
theorem znq (a:Aut)(hw:WfA a)(l:List Ev):Vb N0 a l=some true:=by
 obtain ⟨b,B,M⟩:=zv3 a hw l;unfold Vb;simp only [B1,Ar];have v:Wz N0=some true:=rfl;rw [v,A1,Bool.not_true,B3,B,A1,Af];have tt:Fw N0 l a true=some true:=by unfold Fw;rw [Au]
 cases b with
 |false=>rw [B3,tt]
 |true =>
 rw [Au];obtain ⟨P,O,q,s,D⟩:=M rfl;have e:l.length<=1000000:=by omega
 have c:=zp7 a hw l B;obtain ⟨r,x,j,C⟩:=zdh N0 (by decide) a hw;rw [x,A1,Af,A3];by_cases n:r=0;rotate_left
 ·rw [if_neg n,tt]
 rw [if_pos n,Y4 N0 l (by unfold N0;omega) e,A1];by_cases t:Et l=0;rotate_left
 ·rw [show (!decide (Et l=0))=true by simp [t],tt]
 rw [show (!decide (Et l=0))=false by simp [t]];have ha:=C n;rw [n] at j;have k:=c.2;have A:=c.1.1;unfold Fw;rw [B3,aC,zy6 (by omega) (by decide)];obtain ⟨w,p,L⟩:=p_l1 l (a:=a) (by omega) (fun k1_1_0y0 k1_1_0y1=>Jv N0 l a k1_1_0y0 k1_1_0y1
  (fun k2_2_0y=>frz 46 <| frz 7095 <| reg <| bnd (L9 N0 a (⟨a.fVars,a.fScopes,k1_1_0y1,k2_2_0y⟩:Ao)) fun h =>
 bnd (Gf N0 a l) fun g =>
 bnd (Gf N0 (⟨a.fVars,a.fScopes,k1_1_0y1,k2_2_0y⟩:Ao) l) fun f =>
 jon (Dl N0) <|
 reg <| cnd (decide (h.2.2=0))
  (cnd (decide (g.2=0))
    (cnd (decide (f.2=0))
      (cnd (h.2.1)
        (bnd (Pf N0 g.1 f.1) fun u =>
        Dl N0 u)
      <| Dl N0 false)
    <| Dl N0 false)
  <| Dl N0 false)
 <| Dl N0 false) N0 (0,k1_1_0y0,[])) N0 0 (aR a.fStates.length ⟨[]⟩) (bF _) (by unfold N0;omega) ⟨aM,fun i hi=>by omega⟩
 refine L.trans ?_;have J:=fun K=>p_l2 l hw ha j c w K N0 0 (bF _) (by unfold N0;omega)
 refine (J _).trans ?_;have hwb:=b_wf ha p hw;have d:=zzc ha p c;have m:=b_rn p;have cb:=zr2 ha p c j;obtain ⟨ri,I⟩:=zyy hw ha hwb m (by omega) (by have:=d.1.1;omega) k j cb;have o:El N0 a l=some 0:=by
  unfold El;rw [x,A1,Af,A3,if_pos n,Y4 N0 l (by unfold N0;omega) e,t,A1]
 have E:q=0:=by rw [o] at s;injection s with s;exact s.symm
 obtain ⟨y,G,F,z,N⟩:=znd m hw hwb c.1 d.1 (by omega) o (zyp ha p c hw j e t) (D E);unfold frz;rw [Ar];show bnd (L9 N0 a (bAu a w)) _=some true;rw [I,A1,G,A1,F,A1];simp only [B1,Ar,A3,Au,if_true];rw [zv4 N0 (by decide) y y z z (by omega),A1];unfold Dl;simp
noncomputable section
abbrev z36 {n b g h c d e}:=jf (Kk n b g h c d e) (fun f=>⟨[(1,aI g),(2,.ptr 2 0),(5,aI c.1),(6,aI c.2),(16,.bool (f))],[(2,.box 42 (Ck h))]⟩) fun _=>Kk.eq_1 ..
abbrev z35 {n b e f c}:=li (Ib n b e f c) (fun d=>⟨[(1,aI e),(2,.ptr 2 0),(5,aI d.1),(6,aI d.2)],[(2,.box 42 (Ck f))]⟩) fun _ _=>Ib.eq_2 ..
abbrev z34 {n b e c}:=li (O3 n b e c) (fun d=>⟨[(1,.ptr 1 0),(3,aI d.1),(4,aI d.2)],[(1,.box 42 (Ck e))]⟩) fun _ _=>O3.eq_2 ..
abbrev z2z {n}:=jt (F0 n) (fun b=>⟨[(12,.bool (b))],[]⟩) fun _=>F0.eq_1 ..
abbrev z30 {n c}:=jt (G2 n c) (fun b=>⟨[(3,aI c),(4,.bool (b))],[]⟩) fun _=>G2.eq_1 ..
abbrev z3x {n b}:=jf (Ig n b) (fun c=>⟨[(2,.bool (c)),(3,.bool (b))],[]⟩) fun _=>Ig.eq_1 ..
abbrev z3y {n c}:=jf (Ks n c) (fun b=>⟨[(0,aI c),(4,.bool (b))],[]⟩) fun _=>Ks.eq_1 ..
abbrev z37 {n}:=jf (Gy n) (fun b=>⟨[(4,.bool (b))],[]⟩) fun _=>Gy.eq_1 ..
abbrev z40 {n}:=jf (C6 n) (fun b=>⟨[(130,.bool (b))],[]⟩) fun _=>C6.eq_1 ..
abbrev z41 {n e d b}:=jf (H3 n e d b) (fun c=>⟨[(1,.ptr 1 0),(4,.bool (d.1)),(5,.bool (d.2)),(6,.bool (decide (e.fOp=4))),(7,.bool (b)),(95,.bool (c))],[(1,.box 42 (Ck e))]⟩) fun _=>H3.eq_1 ..
abbrev z42 {n d c b}:=jt (Kt n d c b) (fun _=>⟨[(1,.ptr 1 0),(4,.bool (c.1)),(5,.bool (c.2)),(6,.bool (decide (d.fOp=4))),(7,.bool (b))],[(1,.box 42 (Ck d))]⟩) fun _=>Kt.eq_1 ..
abbrev z43 {n d c}:=jf (Ku n d c) (fun b=>⟨[(1,.ptr 1 0),(4,.bool (c.1)),(5,.bool (c.2)),(6,.bool (decide (d.fOp=4))),(7,.bool (b))],[(1,.box 42 (Ck d))]⟩) fun _=>Ku.eq_1 ..
abbrev z44 {n d c}:=jf (Ih n d c) (fun b=>⟨[(1,.ptr 1 0),(4,.bool (c.1)),(5,.bool (c.2)),(6,.bool (decide (d.fOp=4))),(62,.bool (b))],[(1,.box 42 (Ck d))]⟩) fun _=>Ih.eq_1 ..
abbrev z47 {n d c}:=jf (Ej n d c) (fun b=>⟨[(1,.ptr 1 0),(4,.bool (c.1)),(5,.bool (c.2)),(48,.bool (b))],[(1,.box 42 (Ck d))]⟩) fun _=>Ej.eq_1 ..
abbrev z2y {n b e c}:=li (O2 n b e c) (fun d=>⟨[(1,.ptr 1 0),(4,aI d)],[(1,.box 42 (Ck e))]⟩) fun _ _=>O2.eq_2 ..
attribute [instance] z36 z35 z34 z2z z30 z3x z3y z37 z40 z41 z42 z43 z44 z47 z2y
def z6f (r:Int):AV:=aI (r)
theorem z2h {n e d r}(c:G8 n e d=some r):Con E0 true 69 [Al e,aI d] (aI r):=by
 induction n generalizing e d r
 case zero=>cases c
 case succ n f =>
 unfold G8 at c;refine cw Tryz.func69 ?_;repeat' first
  |refine bG c (fun v c=>?_) fun c=>?_
  |refine aN c fun c=>?_
  |refine aH [3] ?_;conv=>whnf
  |refine aO c (fun c=>?_) fun c=>?_
  |refine aL c Dn (fun x c=>?_)
  |refine bO c z6f (fun a h=>f h) (fun a c=>?_)
  |exact ⟨_,c,aA []⟩
  |refine aQ c (aA []) fun m v c=>?_
  |exact aD c
instance ze7 {n d c}:CI E0 (G8 n d c) true 69 [Al d,aI c] aI:=⟨z2h⟩
def z6e (r:Int):AV:=aI (r)
theorem z2g {n d r}(c:G7 n d=some r):Con E0 true 70 [Al d] (aI r):=by
 induction n generalizing d r
 case zero=>cases c
 case succ n e =>
 unfold G7 at c;refine cw Tryz.func70 ?_;repeat' first
  |refine aE ?_;conv=>whnf
  |refine aO c (fun c=>?_) fun c=>?_
  |refine aL c Dn (fun x c=>?_)
  |refine bO c z6e (fun a h=>e h) (fun a c=>?_)
  |exact ⟨_,c,aA []⟩
  |refine aQ c (aA []) fun m v c=>?_
  |exact aD c
instance ze6 {n c}:CI E0 (G7 n c) true 70 [Al c] aI:=⟨z2g⟩
instance ze3 {n c}:CI E0 (S7 n c) true 174 [aI c] aI:=by unfold S7;exact aB [2,3,4,5,10,11,12,13,14,15] Tryz.func174
instance zf1 {n c}:CI E0 (Sd n c) true 175 [aI c] (fun r=>.tup [.bool (r.1),.bool (r.2)]):=by unfold Sd;exact aB [1,2] Tryz.func175
instance zee {n c}:CI E0 (H6 n c) true 176 [Aa c] aI:=by unfold H6;exact aB [] Tryz.func176
instance zea {n d c}:CI E0 (Ld n d c) true 177 [aI d,Aa c] (fun r=>.bool (r)):=by unfold Ld;exact aB [1] Tryz.func177
instance zf3 {n d}:CI E0 (Se n d) true 121 [Al d] aI:=⟨fun {r} c=>by
 unfold Se at c;refine cw Tryz.func121 ?_;repeat' first
  |refine bG c (fun v c=>?_) fun c=>?_
  |refine AW.jI2 c (fun v c=>?_) fun c=>?_
  |refine aN c fun c=>?_
  |refine aH [7,10,12,13,17,19] ?_;conv=>whnf
  |refine aO c (fun c=>?_) fun c=>?_
  |refine bK ?_
  |refine bP ?_
  |refine aS c fun a c=>?_
  |exact ⟨_,c,aA []⟩
  |exact ⟨(),c,aA []⟩
  |refine bA ?_
  |exact aD c⟩
def z6d (r:Int):AV:=aI (r)
theorem z2f {n d r}(c:H5 n d=some r):Con E0 true 73 [Al d] (aI r):=by
 induction n generalizing d r
 case zero=>cases c
 case succ n e =>
 unfold H5 at c;refine cw Tryz.func73 ?_;repeat' first
  |refine aE ?_;conv=>whnf
  |refine aO c (fun c=>?_) fun c=>?_
  |refine aS c fun a c=>?_
  |refine aL c Dn (fun x c=>?_)
  |refine bO c z6d (fun a h=>e h) (fun a c=>?_)
  |exact ⟨_,c,aA []⟩
  |refine aQ c (aA []) fun m v c=>?_
  |exact aD c
instance ze2 {n c}:CI E0 (H5 n c) true 73 [Al c] aI:=⟨z2f⟩
end
noncomputable section
abbrev z4u {n}:=jf (L0 n) (fun b=>⟨[(4,.bool (b))],[]⟩) fun _=>L0.eq_1 ..
abbrev z23 {n e f b c}:=li (Nm n e f b c) (fun d=>⟨[(1,.sl 11 (e.map B0)),(2,.ptr 2 0),(5,aI b),(6,aI d)],[(2,.box 25 (Bf f))]⟩) fun _ _=>Nm.eq_2 ..
abbrev z26 {n e f b c}:=jf (I6 n e f b c) (fun d=>⟨[(1,.sl 11 (e.map B0)),(2,.ptr 2 0),(5,aI b),(44,.bool (d))],[(2,.box 25 (Bf f))]⟩) fun _=>I6.eq_1 ..
abbrev z24 {n d e b}:=li (Fy n d e b) (fun c=>⟨[(1,.sl 11 (d.map B0)),(2,.ptr 2 0),(5,aI c)],[(2,.box 25 (Bf e))]⟩) fun _ _=>Fy.eq_2 ..
abbrev z20 {n e f b c}:=li (Nl n e f b c) (fun d=>⟨[(0,.sl 1 (f.map aI)),(1,aI e),(5,aI b),(6,aI d)],[]⟩) fun _ _=>Nl.eq_2 ..
abbrev z21 {n d e b}:=li (K9 n d e b) (fun c=>⟨[(0,.sl 1 (e.map aI)),(1,aI d),(5,aI c)],[]⟩) fun _ _=>K9.eq_2 ..
abbrev z2p {n d b}:=li (Kg n d b) (fun c=>⟨[(3,.ptr 3 0),(10,aI c)],[(3,.box 46 (C4 d))]⟩) fun _ _=>Kg.eq_2 ..
abbrev z2q {n e f b c}:=li (Gw n e f b c) (fun d=>⟨[(2,.ptr 2 0),(3,.ptr 3 0),(7,.sl 1 [.sl 1 (e.fOpens.map aI),.sl 1 (e.fCloses.map aI),.sl 1 (e.fInside.map aI),.sl 1 (b.map aI)]),(8,aI d)],[(2,.box 25 (Bf f)),(3,.box 46 (C4 e))]⟩) fun _ _=>Gw.eq_2 ..
abbrev z2r {n d e b}:=li (Ny n d e b) (fun c=>⟨[(2,.ptr 2 0),(3,.ptr 3 0),(5,.row 7026),(6,aI c.1)],[(2,.box 25 (Bf e)),(3,.box 46 (C4 d)),(7026,.row 3 1 (c.2.map aI))]⟩) fun _ _=>Ny.eq_2 ..
abbrev z3p {n d e b}:=li (Oc n d e b) (fun c=>⟨[(3,.ptr 3 0),(4,.ptr 4 0),(9,aI c)],[(3,.box 25 (Bf e)),(4,.box 46 (C4 d))]⟩) fun _ _=>Oc.eq_2 ..
abbrev z3q {n c d e}:=jf (E6 n c d e) (fun b=>⟨[(2,aI c),(3,.ptr 3 0),(4,.ptr 4 0),(42,.bool (b))],[(3,.box 25 (Bf e)),(4,.box 46 (C4 d))]⟩) fun _=>E6.eq_1 ..
abbrev z2s {n d b}:=li (Nz n d b) (fun c=>⟨[(1,.ptr 1 0),(5,aI c.1),(6,aI c.2)],[(1,.box 25 (Bf d))]⟩) fun _ _=>Nz.eq_2 ..
abbrev z2t {n d b}:=li (O0 n d b) (fun c=>⟨[(1,.ptr 1 0),(3,aI c)],[(1,.box 25 (Bf d))]⟩) fun _ _=>O0.eq_2 ..
abbrev z2u {n c}:=jf (Fz n c) (fun b=>⟨[(1,.ptr 1 0),(31,.bool (b))],[(1,.box 25 (Bf c))]⟩) fun _=>Fz.eq_1 ..
abbrev z2v {n c}:=jf (Gx n c) (fun b=>⟨[(1,.ptr 1 0),(15,.bool (b))],[(1,.box 25 (Bf c))]⟩) fun _=>Gx.eq_1 ..
attribute [instance] z4u z23 z26 z24 z20 z21 z2p z2q z2r z3p z3q z2s z2t z2u z2v
instance ze8 {n c}:CI E0 (G9 n c) true 43 [Al c] aI:=by unfold G9;exact aB [] Tryz.func43
instance zhk {n d c}:CI E0 (De n d c) true 20 [aI d,aI c] (fun r=>.bool (r)):=by unfold De;exact aB [1] Tryz.func20
instance zcj {n d c}:CI E0 (Rz n d c) true 21 [C1 d,.sl 11 (c.map B0)] aI:=by unfold Rz;exact aB [6] Tryz.func21
instance zci {n d c}:CI E0 (Ot n d c) true 74 [.sl 1 (d.map aI),aI c] aI:=by unfold Ot;exact aB [] Tryz.func74
instance zdx {n e d}:CI E0 (P4 n e d) true 44 [C1 e,Ax d] aI:=⟨fun {r} c=>by
 unfold P4 at c;refine cw Tryz.func44 ?_;repeat' first
  |refine aN c fun c=>?_
  |refine AW.frzO c 7026 rfl (fun c=>?_)
  |refine aH [6] ?_;conv=>whnf
  |refine aO c (fun c=>?_) fun c=>?_
  |refine aT c fun x c=>?_
  |refine aS c fun a c=>?_
  |exact ⟨_,c,aA []⟩
  |refine aQ c ?_ fun m v c=>?_
  |exact aA []
  |refine IdxX.o (fun q=>AV.sl 1 (List.map aI q)) c fun x c=>?_
  |refine aP c fun l c=>?_
  |exact ⟨_,c,aA [(7026,26)]⟩
  |exact aJ (aK 5 7026 3 1 rfl rfl) (aA [])
  |refine AndA ?_
  |exact aD c⟩
instance zey {n f e d}:CI E0 (Sb n f e d) true 22 [C1 f,Ax e,aI d] aI:=⟨fun {r} c=>by
 unfold Sb at c;refine cw Tryz.func22 ?_;repeat' first
  |refine bG c (fun v c=>?_) fun c=>?_
  |refine aN c fun c=>?_
  |refine aH [2] ?_;conv=>whnf
  |refine aO c (fun c=>?_) fun c=>?_
  |refine bK ?_
  |refine bP ?_
  |refine aS c fun a c=>?_
  |refine aL c Dn (fun x c=>?_)
  |exact ⟨_,c,aA []⟩
  |refine aQ c (aA []) fun m v c=>?_
  |exact aD c⟩
end
noncomputable section
abbrev zb0 {n b e d}:=li (Q6 n b e d) (fun c=>⟨[(4,aI c.1),(5,aI c.2.1),(11,.sl 8 (e.fArgs.map idA)),(12,aI (((e.fArgs.map idA).length:Int))),(13,aI c.2.2)],[]⟩) fun _ _=>Q6.eq_2 ..
abbrev z9s {n c}:=jf (Lz n c) (fun b=>⟨[(0,aI c),(4,.bool (b))],[]⟩) fun _=>Lz.eq_1 ..
abbrev zat {n}:=jt (M2 n) (fun b=>⟨[(8,.bool (b))],[]⟩) fun _=>M2.eq_1 ..
abbrev zau {n c}:=jt (M3 n c) (fun b=>⟨[(4,aI c),(5,.bool (b))],[]⟩) fun _=>M3.eq_1 ..
abbrev z9r {n}:=jf (J0 n) (fun b=>⟨[(4,.bool (b))],[]⟩) fun _=>J0.eq_1 ..
abbrev z7a {n}:=jf (Ha n) (fun b=>⟨[(31,.bool (b))],[]⟩) fun _=>Ha.eq_1 ..
abbrev zav {n}:=jf (C7 n) (fun b=>⟨[(113,.bool (b))],[]⟩) fun _=>C7.eq_1 ..
abbrev zaw {n d c b}:=jt (M4 n d c b) (fun _=>⟨[(1,.ptr 1 0),(5,.bool (c.1)),(6,.bool (c.2)),(7,.bool (decide (d.fOp=4))),(8,.bool (b))],[(1,.box 42 (Ck d))]⟩) fun _=>M4.eq_1 ..
abbrev zax {n d c}:=jf (M5 n d c) (fun b=>⟨[(1,.ptr 1 0),(5,.bool (c.1)),(6,.bool (c.2)),(7,.bool (decide (d.fOp=4))),(8,.bool (b))],[(1,.box 42 (Ck d))]⟩) fun _=>M5.eq_1 ..
abbrev zay {n d c}:=jf (J1 n d c) (fun b=>⟨[(1,.ptr 1 0),(5,.bool (c.1)),(6,.bool (c.2)),(7,.bool (decide (d.fOp=4))),(66,.bool (b))],[(1,.box 42 (Ck d))]⟩) fun _=>J1.eq_1 ..
abbrev zaz {n d c}:=jf (Ep n d c) (fun b=>⟨[(1,.ptr 1 0),(5,.bool (c.1)),(6,.bool (c.2)),(52,.bool (b))],[(1,.box 42 (Ck d))]⟩) fun _=>Ep.eq_1 ..
abbrev z9q {n b e c}:=li (Q3 n b e c) (fun d=>⟨[(1,.fn 125 []),(16,.sl 8 (e.fArgs.map idA)),(17,aI (((e.fArgs.map idA).length:Int))),(18,aI d)],[]⟩) fun _ _=>Q3.eq_2 ..
abbrev z5x {n}:=jf (Lf n) (fun b=>⟨[(4,.bool (b))],[]⟩) fun _=>Lf.eq_1 ..
attribute [instance] zb0 z9s zat zau z9r z7a zav zaw zax zay zaz z9q z5x
instance zdy {n c}:CI E0 (Lb n c) true 6 [C1 c] aI:=by unfold Lb;exact aB [1,3] Tryz.func6
def zlc (r:Int×Int):AV:=.tup [aI (r.1),aI (r.2)]
theorem z9y {n d r}(c:Hh n d=some r):Con E0 true 123 [Al d] (.tup [aI r.1,aI r.2]):=by
 induction n generalizing d r
 case zero=>cases c
 case succ n e =>
 unfold Hh at c;refine cw Tryz.func123 ?_;repeat' first
  |refine aE ?_;conv=>whnf
  |refine aO c (fun c=>?_) fun c=>?_
  |refine aL c Dn (fun x c=>?_)
  |refine bO c zlc (fun a h=>e h) (fun a c=>?_)
  |exact ⟨_,c,aA []⟩
  |refine aQ c (aA []) fun m v c=>?_
  |exact aD c
instance zt4 {n c}:CI E0 (Hh n c) true 123 [Al c] (fun r=>.tup [aI r.1,aI r.2]):=⟨z9y⟩
instance zrg {n c}:CI E0 (U1 n c) true 178 [aI c] (fun r=>.tup [aI r.1,.bool (r.2)]):=by unfold U1;exact aB [1] Tryz.func178
instance zt1 {n c}:CI E0 (U5 n c) true 179 [aI c] (fun r=>.tup [.bool (r.1),.bool (r.2)]):=by unfold U5;exact aB [2,5] Tryz.func179
instance zr9 {n c}:CI E0 (M6 n c) true 259 [Aa c] aI:=by unfold M6;exact aB [] Tryz.func259
instance zqk {n c}:CI E0 (Hd n c) true 222 [Aa c] aI:=by unfold Hd;exact aB [] Tryz.func222
instance zre {n d c}:CI E0 (U0 n d c) true 223 [aI d,Aa c] (fun r=>.bool (r)):=by unfold U0;exact aB [1] Tryz.func223
instance zmr {n c}:CI E0 (Th n c) true 180 [Al c] aI:=by unfold Th;exact aB [4] Tryz.func180
instance zt2 {n d}:CI E0 (U6 n d) true 125 [Al d] aI:=⟨fun {r} c=>by
 unfold U6 at c;refine cw Tryz.func125 ?_;repeat' first
  |refine bG c (fun v c=>?_) fun c=>?_
  |refine AW.jI2 c (fun v c=>?_) fun c=>?_
  |refine aN c fun c=>?_
  |refine aH [7,10,12,13,17] ?_;conv=>whnf
  |refine aO c (fun c=>?_) fun c=>?_
  |refine bK ?_
  |refine bP ?_
  |refine aS c fun a c=>?_
  |exact ⟨_,c,aA []⟩
  |exact ⟨(),c,aA []⟩
  |refine bA ?_
  |exact aD c⟩
def zio (r:Int):AV:=aI (r)
theorem z8o {n d r}(c:Hf n d=some r):Con E0 true 124 [Al d,.fn 125 []] (aI r):=by
 induction n generalizing d r
 case zero=>cases c
 case succ n e =>
 unfold Hf at c;refine cw Tryz.func124 ?_;repeat' first
  |refine aE ?_;conv=>whnf
  |refine aO c (fun c=>?_) fun c=>?_
  |refine aS c fun a c=>?_
  |refine aL c Dn (fun x c=>?_)
  |refine bO c zio (fun a h=>e h) (fun a c=>?_)
  |exact ⟨_,c,aA []⟩
  |refine aQ c (aA []) fun m v c=>?_
  |exact aD c
instance zrd {n c}:CI E0 (Hf n c) true 124 [Al c,.fn 125 []] aI:=⟨z8o⟩
instance zrh {n c}:CI E0 (Hg n c) true 77 [Al c] aI:=by unfold Hg;exact aB [] Tryz.func77
instance ziu {n d c}:CI E0 (F8 n d c) true 28 [aI d,aI c] (fun r=>.bool (r)):=by unfold F8;exact aB [1] Tryz.func28
end
noncomputable section
abbrev z5m {n b e c}:=li (Pa n b e c) (fun d=>⟨[(0,.sl 11 (e.map B0)),(1,.fn 76 [.ref (U3 b)]),(7,aI (((e.map B0).length:Int))),(8,aI d)],[]⟩) fun _ _=>Pa.eq_2 ..
abbrev z61 {n f g b c d}:=jf (H7 n f g b c d) (fun e=>⟨[(1,.sl 11 (f.map B0)),(2,.ptr 2 0),(5,aI b),(6,.ptr 6 0),(11,.sl 11 (f.map B0)),(12,aI (((f.map B0).length:Int))),(13,aI b),(18,.bool (e))],[(2,.box 25 (Bf g)),(6,.box 105 (U3 d))]⟩) fun _=>H7.eq_1 ..
abbrev z60 {n d e b}:=li (E8 n d e b) (fun c=>⟨[(1,.sl 11 (d.map B0)),(2,.ptr 2 0),(11,.sl 11 (d.map B0)),(12,aI (((d.map B0).length:Int))),(13,aI c)],[(2,.box 25 (Bf e))]⟩) fun _ _=>E8.eq_2 ..
abbrev z5h {n d b}:=li (P3 n d b) (fun c=>⟨[(3,.row 7016),(6,.sl 2 (d.map Bl)),(7,aI (((d.map Bl).length:Int))),(8,aI c.1)],[(7016,.row 3 1 (c.2.map aI))]⟩) fun _ _=>P3.eq_2 ..
abbrev z7z {n e d b}:=li (Pu n e d b) (fun c=>⟨[(0,.sl 1 (d.map aI)),(1,aI e),(7,aI (((d.map aI).length:Int))),(8,aI c)],[]⟩) fun _ _=>Pu.eq_2 ..
abbrev z5y {n f g c b d}:=li (Ek n f g c b d) (fun e=>⟨[(2,.ptr 2 0),(6,.sl 1 (b.map aI)),(9,.sl 1 (List.map (fun q=>AV.sl 1 (List.map aI q)) (f))),(10,aI ((((List.map (fun q=>AV.sl 1 (List.map aI q)) (f)).length:Nat):Int))),(11,aI c),(15,.sl 1 (b.map aI)),(16,aI (((b.map aI).length:Int))),(17,aI e)],[(2,.box 25 (Bf g))]⟩) fun _ _=>Ek.eq_2 ..
abbrev z5z {n d e b}:=li (F5 n d e b) (fun c=>⟨[(2,.ptr 2 0),(9,.sl 1 (List.map (fun q=>AV.sl 1 (List.map aI q)) (d))),(10,aI ((((List.map (fun q=>AV.sl 1 (List.map aI q)) (d)).length:Nat):Int))),(11,aI c)],[(2,.box 25 (Bf e))]⟩) fun _ _=>F5.eq_2 ..
abbrev z62 {n}:=jf (Lg n) (fun b=>⟨[(2,.bool (b))],[]⟩) fun _=>Lg.eq_1 ..
abbrev z29 {n d b}:=li (Nn n d b) (fun c=>⟨[(0,.sl 2 (d.map Bl)),(1,.fn 81 []),(7,aI (((d.map Bl).length:Int))),(8,aI c)],[]⟩) fun _ _=>Nn.eq_2 ..
attribute [instance] z5m z61 z60 z5h z7z z5y z5z z62 z29
instance zfc {n d c}:CI E0 (Pn n d c) true 76 [B0 d,.ref (U3 c)] (fun r=>.bool (r)):=by unfold Pn;exact aB [] Tryz.func76
instance zit {n c b}:CI E0 (T7 n c b) true 122 [.sl 11 (c.map B0),.fn 76 [.ref (U3 b)]] aI:=by unfold T7;exact aB [] Tryz.func122
instance zef {n c b}:CI E0 (Pb n c b) true 75 [.sl 11 (c.map B0),.fn 76 [.ref (U3 b)]] (fun r=>.bool (r)):=by unfold Pb;exact aB [] Tryz.func75
instance ziw {n e d}:CI E0 (Fh n e d) true 45 [C1 e,.sl 11 (d.map B0)] aI:=⟨fun {r} c=>by
 unfold Fh at c;refine cw Tryz.func45 ?_;repeat' first
  |refine bG c (fun v c=>?_) fun c=>?_
  |refine aN c fun c=>?_
  |refine aH [6] ?_;conv=>whnf
  |refine aO c (fun c=>?_) fun c=>?_
  |refine bK ?_
  |refine aT c fun x c=>?_
  |refine SlsX.o B0 c (fun l c=>?_)
  |refine Be.I c (fun a c=>?_) rfl rfl fun _=>Or.inr rfl
  |refine aS c fun a c=>?_
  |exact ⟨_,c,aA []⟩
  |refine aQ c (aA []) fun m v c=>?_
  |exact aD c⟩
instance zi3 {n d}:CI E0 (Pq n d) false 79 [.sl 2 (d.map Bl)] (fun r=>.sl 1 (r.map aI)):=⟨fun {r} c=>by
 unfold Pq at c;refine cw Tryz.func79 ?_;repeat' first
  |refine aE ?_;conv=>whnf
  |refine aO c (fun c=>?_) fun c=>?_
  |refine aT c fun x c=>?_
  |refine aP c fun l c=>?_
  |exact ⟨_,c,aA [(7016,16)]⟩
  |refine aQ c ?_ fun m v c=>?_
  |exact aJ (aK 3 7016 3 1 rfl rfl) (aA [])
  |exact aD c⟩
instance zo5 {n d c}:CI E0 (Wd n d c) true 181 [.sl 1 (d.map aI),aI c] aI:=by unfold Wd;exact aB [] Tryz.func181
instance zkl {n d c}:CI E0 (Hc n d c) true 126 [.sl 1 (d.map aI),aI c] (fun r=>.bool (r)):=by unfold Hc;exact aB [] Tryz.func126
instance ziv {n e d}:CI E0 (Iw n e d) true 78 [C1 e,.sl 1 (List.map (fun q=>AV.sl 1 (List.map aI q)) (d))] aI:=⟨fun {r} c=>by
 unfold Iw at c;refine cw Tryz.func78 ?_;repeat' first
  |refine aE ?_;conv=>whnf
  |refine aO c (fun c=>?_) fun c=>?_
  |refine IdxX.o (fun q=>AV.sl 1 (List.map aI q)) c fun x c=>?_
  |exact ⟨_,c,aA []⟩
  |refine aT c fun x c=>?_
  |refine aS c fun a c=>?_
  |refine SlsX.o aI c (fun l c=>?_)
  |refine aQ c (aA []) fun m v c=>?_
  |exact aD c⟩
instance zix {n c}:CI E0 (Lq n c) true 81 [Bl c] (fun r=>.bool (r)):=by unfold Lq;exact aB [1] Tryz.func81
instance zcn {n c}:CI E0 (S2 n c) true 127 [.sl 2 (c.map Bl),.fn 81 []] aI:=by unfold S2;exact aB [] Tryz.func127
instance z9v {n c}:CI E0 (Nq n c) true 80 [.sl 2 (c.map Bl),.fn 81 []] (fun r=>.bool (r)):=by unfold Nq;exact aB [] Tryz.func80
end
noncomputable section
abbrev z7d {n d e b}:=li (Gb n d e b) (fun c=>⟨[(3,.ptr 3 0),(4,.ptr 4 0),(63,.sl 8 (d.fChecks.map idA)),(64,aI (((d.fChecks.map idA).length:Int))),(65,aI c)],[(3,.box 25 (Bf e)),(4,.box 46 (C4 d))]⟩) fun _ _=>Gb.eq_2 ..
abbrev z7e {n c d e}:=jf (Dm n c d e) (fun b=>⟨[(2,aI c),(3,.ptr 3 0),(4,.ptr 4 0),(12,.bool (b))],[(3,.box 25 (Bf e)),(4,.box 46 (C4 d))]⟩) fun _=>Dm.eq_1 ..
abbrev z6p {n d b}:=li (En n d b) (fun c=>⟨[(1,.ptr 1 0),(6,aI c.1),(62,.sl 17 (d.fEdges.map Ax)),(63,aI (((d.fEdges.map Ax).length:Int))),(64,aI c.2)],[(1,.box 25 (Bf d))]⟩) fun _ _=>En.eq_2 ..
abbrev z6q {n d b}:=li (F6 n d b) (fun c=>⟨[(1,.ptr 1 0),(47,.sl 1 (d.fStates.map B6)),(48,aI (((d.fStates.map B6).length:Int))),(49,aI c)],[(1,.box 25 (Bf d))]⟩) fun _ _=>F6.eq_2 ..
abbrev z6r {n c}:=jf (Fg n c) (fun b=>⟨[(1,.ptr 1 0),(29,.bool (b))],[(1,.box 25 (Bf c))]⟩) fun _=>Fg.eq_1 ..
abbrev z6s {n c}:=jf (F7 n c) (fun b=>⟨[(1,.ptr 1 0),(10,.bool (b))],[(1,.box 25 (Bf c))]⟩) fun _=>F7.eq_1 ..
abbrev z49 {n}:=jf (Ii n) (fun b=>⟨[(2,.bool (b))],[]⟩) fun _=>Ii.eq_1 ..
abbrev z3a {n}:=jf (Gz n) (fun b=>⟨[(58,.bool (b))],[]⟩) fun _=>Gz.eq_1 ..
abbrev z38 {n}:=jf (Kl n) (fun b=>⟨[(70,.bool (b))],[]⟩) fun _=>Kl.eq_1 ..
abbrev z3b {n c}:=jf (Km n c) (fun b=>⟨[(1,.ptr 1 0),(23,.bool (b))],[(1,.box 387 (T9 c))]⟩) fun _=>Km.eq_1 ..
abbrev z3c {n c}:=jf (Ko n c) (fun b=>⟨[(1,.ptr 1 0),(15,.bool (b))],[(1,.box 387 (T9 c))]⟩) fun _=>Ko.eq_1 ..
abbrev z57 {n c}:=jt (Iq n c) (fun b=>⟨[(4,.ptr 4 0),(8,.ptr 8 0)],[(4,.box 387 [aI 0,aI 0,aI 0,aI 0,.str (ByteArray.empty)]),(8,.box 387 [aI c.fKind,aI ((IntKind.wrap .i64 (c.fCount+1))),aI b.1,aI b.2.1,.str (b.2.2)])]⟩) fun _=>Iq.eq_1 ..
abbrev z28 {n c d}:=jf (Kb n c d) (fun b=>⟨[(2,.ptr 2 0),(3,.ptr 3 0),(4,.ptr 4 0),(35,.bool (b))],[(2,.box 387 (T9 d)),(3,.box 40 (Cb c)),(4,.box 40 [aI 0,aI 0,.str (ByteArray.empty)])]⟩) fun _=>Kb.eq_1 ..
abbrev z5l {n d e c}:=li (P6 n d e c) (fun b=>⟨[(1,.sl 3 (e.map Aa)),(5,.ptr 5 0),(6,.ptr 6 0),(8,.ptr 8 0),(9,aI b.1)],[(5,.box 40 (Cb d)),(6,.box 40 [aI 0,aI 0,.str (ByteArray.empty)]),(8,.box 387 [aI b.2.1,aI b.2.2.1,aI b.2.2.2.1,aI b.2.2.2.2.1,.str (b.2.2.2.2.2)])]⟩) fun _ _=>P6.eq_2 ..
attribute [instance] z7d z7e z6p z6q z6r z6s z49 z3a z38 z3b z3c z57 z28 z5l
instance zms {n f e d}:CI E0 (Fi n f e d) true 46 [C1 f,Ax e,aI d] aI:=⟨fun {r} c=>by
 unfold Fi at c;refine cw Tryz.func46 ?_;repeat' first
  |refine bG c (fun v c=>?_) fun c=>?_
  |refine aN c fun c=>?_
  |refine aH [1] ?_;conv=>whnf
  |refine aO c (fun c=>?_) fun c=>?_
  |refine bK ?_
  |refine aS c fun a c=>?_
  |refine aL c Dn (fun x c=>?_)
  |exact ⟨_,c,aA []⟩
  |refine aQ c (aA []) fun m v c=>?_
  |refine AndA ?_
  |exact aD c⟩
instance zkv {n c}:CI E0 (D5 n c) true 27 [C1 c] aI:=by unfold D5;exact aB [1,3] Tryz.func27
instance zf8 {n c}:CI E0 (Pi n c) true 328 [aI c] (fun r=>.bool (r)):=by unfold Pi;exact aB [1] Tryz.func328
instance zeb {n c}:CI E0 (P7 n c) true 336 [Eo c] aI:=by unfold P7;exact aB [3,5,11,14] Tryz.func336
instance ze9 {n d c}:CI E0 (P5 n d c) true 337 [aI d,Aa c] aI:=by unfold P5;exact aB [] Tryz.func337
instance zb6 {n e d c}:CI E0 (Rs n e d c) true 338 [aI e,Aa d,Aa c] Aa:=by unfold Rs;exact aB [] Tryz.func338
instance zhp {n d c}:CI E0 (So n d c) true 329 [Eo d,Aa c] (fun r=>.tup [Eo r.1,aI r.2]):=by unfold So;exact aB [10,12] Tryz.func329
instance zcl {n d c}:CI E0 (Ow n d c) true 330 [Eo d,Aa c] (fun r=>.tup [Aa r.1,aI r.2]):=by unfold Ow;exact aB [9] Tryz.func330
end
noncomputable section
abbrev z27 {n c d}:=jf (Ka n c d) (fun b=>⟨[(1,aI c),(2,.ptr 2 0),(13,.bool (b))],[(2,.box 223 (Dx d))]⟩) fun _=>Ka.eq_1 ..
abbrev z3z {n e d b}:=li (Oe n e d b) (fun c=>⟨[(4,.ptr 4 0),(8,.ptr 8 0),(10,.row 7063),(11,.sl 5 (d.map A6)),(12,aI c.1)],[(4,.box 42 (Ck e)),(8,.box 40 [aI 0,aI 0,.str (ByteArray.empty)]),(7063,.row 40 3 (c.2.map Aa))]⟩) fun _ _=>Oe.eq_2 ..
abbrev z0y {n}:=jt (Hy n) (fun b=>⟨[(9,.bool (b))],[]⟩) fun _=>Hy.eq_1 ..
abbrev z0z {n c}:=jt (Gu n c) (fun b=>⟨[(3,aI c),(4,.bool (b))],[]⟩) fun _=>Gu.eq_1 ..
abbrev z0x {n e f b c}:=jf (Fx n e f b c) (fun d=>⟨[(0,aI f),(1,.sl 1 (e.map aI)),(5,aI b),(38,.bool (d))],[]⟩) fun _=>Fx.eq_1 ..
abbrev z0w {n d e b}:=li (Ff n d e b) (fun c=>⟨[(0,aI e),(1,.sl 1 (d.map aI)),(5,aI c)],[]⟩) fun _ _=>Ff.eq_2 ..
abbrev z32 {n}:=jf (Ki n) (fun b=>⟨[(4,.ptr 4 0)],[(4,.box 40 [aI b.1,aI b.2.1,.str (b.2.2)])]⟩) fun _=>Ki.eq_1 ..
abbrev z31 {n}:=jf (Kh n) (fun b=>⟨[(4,.ptr 4 0)],[(4,.box 40 [aI b.1,aI b.2.1,.str (b.2.2)])]⟩) fun _=>Kh.eq_1 ..
abbrev z48 {n b e f g h d}:=li (Og n b e f g h d) (fun c=>⟨[(2,aI f),(4,.ptr 4 0),(5,.ptr 5 0),(7,.ptr 7 0),(8,.ptr 8 0),(10,.row 7053),(11,.row 7058),(12,aI c.1)],[(4,.box 42 (Ck h)),(5,.box 223 (Dx g)),(7,.box 59 (Cc e)),(8,.box 40 [aI 0,aI 0,.str (ByteArray.empty)]),(7053,.row 40 3 (c.2.1.map Aa)),(7058,.row 3 1 (c.2.2.map aI))]⟩) fun _ _=>Og.eq_2 ..
abbrev z33 {n}:=jf (Kj n) (fun b=>⟨[(8,.bool (b))],[]⟩) fun _=>Kj.eq_1 ..
attribute [instance] z27 z3z z0y z0z z0x z0w z32 z31 z48 z33
instance zis {n e d c}:CI E0 (Pr n e d c) true 310 [aI e,.sl 3 (d.map Aa),Aa c] (fun r=>.tup [Aa r.1,aI r.2]):=by unfold Pr;exact aB [] Tryz.func310
instance zck {n e d}:CI E0 (L4 n e d) false 309 [Dw e,aI d] (fun r=>.sl 5 (r.map A6)):=⟨fun {r} c=>by
 unfold L4 at c;refine cw Tryz.func309 ?_;repeat' first
  |refine bG c (fun v c=>?_) fun c=>?_
  |refine aN c fun c=>?_
  |refine aH [1] ?_;conv=>whnf
  |refine aO c (fun c=>?_) fun c=>?_
  |refine IdxX.o (fun q=>AV.sl 5 (List.map A6 q)) c fun x c=>?_
  |exact ⟨_,c,aA []⟩
  |exact aD c⟩
instance zf4 {n f e d c}:CI E0 (Vy n f e d c) false 311 [Dw f,aI e,aI d,A6 c] (fun r=>.tup [A6 r.1,.bool (r.2)]):=by unfold Vy;exact aB [] Tryz.func311
instance zf2 {n g f e d}:CI E0 (Ph n g f e d) true 284 [Al g,Dw f,aI e,A6 d] (fun r=>.tup [Aa r.1,aI r.2]):=⟨fun {r} c=>by
 unfold Ph at c;refine cw Tryz.func284 ?_;repeat' first
  |refine aE ?_;conv=>whnf
  |refine aO c (fun c=>?_) fun c=>?_
  |refine aS c fun a c=>?_
  |refine Be.I c (fun a c=>?_) rfl rfl fun _=>Or.inr rfl
  |refine aT c fun x c=>?_
  |refine aP c fun l c=>?_
  |exact ⟨_,c,aA [(7063,63)]⟩
  |refine aQ c ?_ fun m v c=>?_
  |exact aJ (aK 10 7063 40 3 rfl rfl) (aA [])
  |refine AndA ?_
  |exact aD c⟩
instance zae {n c}:CI E0 (Rp n c) true 312 [aI c] aI:=by unfold Rp;exact aB [2,3,4,7,8] Tryz.func312
instance zad {n d c}:CI E0 (Ve n d c) true 285 [aI d,.sl 1 (c.map aI)] aI:=by unfold Ve;exact aB [5] Tryz.func285
instance zf6 {n c}:CI E0 (Em n c) true 13 [.bool (c)] Aa:=by unfold Em;exact aB [] Tryz.func13
instance ze4 {n d c}:CI E0 (Lc n d c) true 286 [aI d,.sl 3 (c.map Aa)] Aa:=by unfold Lc;exact aB [13,15] Tryz.func286
def z6w (r:A5×Int):AV:=.tup [.agg [aI (r.1.fKind),aI (r.1.fNum),.str (r.1.fText)],aI (r.2)]
theorem z3j {n g f e d r}(c:H8 n g f e d=some r):Con E0 true 258 [Al g,Dw f,aI e,A6 d] (.tup [Aa r.1,aI r.2]):=by
 induction n generalizing g f e d r
 case zero=>cases c
 case succ n i =>
 unfold H8 at c;refine cw Tryz.func258 ?_;repeat' first
  |refine aE ?_;conv=>whnf
  |refine aO c (fun c=>?_) fun c=>?_
  |refine aS c fun a c=>?_
  |refine Be.I c (fun a c=>?_) rfl rfl fun _=>Or.inr rfl
  |refine aL c Dn (fun x c=>?_)
  |refine bO c z6w (fun a h=>i h) (fun a c=>?_)
  |refine aP c fun l c=>?_
  |exact ⟨_,c,aA [(7053,53),(7058,58)]⟩
  |refine aQ c ?_ fun m v c=>?_
  |exact aJ (aK 10 7053 40 3 rfl rfl) (aJ (aK 11 7058 3 1 rfl rfl) (aA []))
  |refine AndA ?_
  |exact aD c
instance zf5 {n f e d c}:CI E0 (H8 n f e d c) true 258 [Al f,Dw e,aI d,A6 c] (fun r=>.tup [Aa r.1,aI r.2]):=⟨z3j⟩
instance zf7 {n f e d c}:CI E0 (Vz n f e d c) true 221 [Al f,Dw e,aI d,A6 c] (fun r=>.tup [Aa r.1,aI r.2]):=by unfold Vz;exact aB [] Tryz.func221
end
noncomputable section
abbrev z1k {n f g b c d}:=jf (K3 n f g b c d) (fun e=>⟨[(2,.ptr 2 0),(3,.ptr 3 0),(5,aI b),(18,.bool (e))],[(2,.box 91 (M8 g)),(3,.box 91 (M8 f))]⟩) fun _=>K3.eq_1 ..
abbrev z1j {n d e b}:=li (I2 n d e b) (fun c=>⟨[(2,.ptr 2 0),(3,.ptr 3 0),(5,aI c)],[(2,.box 91 (M8 e)),(3,.box 91 (M8 d))]⟩) fun _ _=>I2.eq_2 ..
abbrev z1h {n g h b c d e}:=jf (I1 n g h b c d e) (fun f=>⟨[(2,.ptr 2 0),(3,.ptr 3 0),(6,aI b),(7,.ptr 7 0),(8,.ptr 8 0),(71,.bool (f))],[(2,.box 99 (Co h)),(3,.box 99 (Co g)),(7,.box 232 (za6 d)),(8,.box 232 (za6 e))]⟩) fun _=>I1.eq_1 ..
abbrev z1i {n f g b c d}:=jf (K2 n f g b c d) (fun e=>⟨[(2,.ptr 2 0),(3,.ptr 3 0),(6,aI b),(40,.bool (e))],[(2,.box 99 (Co g)),(3,.box 99 (Co f))]⟩) fun _=>K2.eq_1 ..
abbrev z1g {n d e b}:=li (I0 n d e b) (fun c=>⟨[(2,.ptr 2 0),(3,.ptr 3 0),(6,aI c)],[(2,.box 99 (Co e)),(3,.box 99 (Co d))]⟩) fun _ _=>I0.eq_2 ..
abbrev z4o {n d e b}:=jf (Ky n d e b) (fun c=>⟨[(0,.sl 3 (e.map Ak)),(3,.ptr 3 0),(5,aI b),(34,.bool (c))],[(3,.box 99 (Co d))]⟩) fun _=>Ky.eq_1 ..
abbrev z4n {n f g b c d}:=jf (Kx n f g b c d) (fun e=>⟨[(0,.sl 3 (g.map Ak)),(3,.ptr 3 0),(5,aI b),(19,.bool (e))],[(3,.box 99 (Co f))]⟩) fun _=>Kx.eq_1 ..
abbrev z4m {n d e b}:=li (Ik n d e b) (fun c=>⟨[(0,.sl 3 (e.map Ak)),(3,.ptr 3 0),(5,aI c)],[(3,.box 99 (Co d))]⟩) fun _ _=>Ik.eq_2 ..
abbrev z6u {n}:=jf (Ir n) (fun b=>⟨[(2,.bool (b))],[]⟩) fun _=>Ir.eq_1 ..
abbrev z6t {n}:=jf (H9 n) (fun b=>⟨[(4,.bool (b))],[]⟩) fun _=>H9.eq_1 ..
attribute [instance] z1k z1j z1h z1i z1g z4o z4n z4m z6u z6t
instance ze5 {n f e d c}:CI E0 (G6 n f e d c) true 170 [Al f,Dw e,aI d,A6 c] (fun r=>.bool (r)):=by unfold G6;exact aB [2] Tryz.func170
instance zec {n d c}:CI E0 (P8 n d c) true 24 [C3 d,C3 c] aI:=by unfold P8;exact aB [] Tryz.func24
instance zdz {n d c}:CI E0 (S5 n d c) true 59 [B9 d,B9 c] aI:=by unfold S5;exact aB [] Tryz.func59
instance zb5 {n d c}:CI E0 (Ie n d c) true 34 [Ap d,Ap c] aI:=by unfold Ie;exact aB [2] Tryz.func34
instance zb4 {n d c}:CI E0 (Ob n d c) true 120 [Ak d,Ak c] aI:=by unfold Ob;exact aB [9,12] Tryz.func120
instance zhh {n e d}:CI E0 (Lj n e d) false 72 [.sl 3 (e.map Ak),Ak d] (fun r=>.sl 3 (r.map Ak)):=⟨fun {r} c=>by
 unfold Lj at c;refine cw Tryz.func72 ?_;repeat' first
  |refine bG c (fun v c=>?_) fun c=>?_
  |refine aN c fun c=>?_
  |refine aH [2,4] ?_;conv=>whnf
  |refine aO c (fun c=>?_) fun c=>?_
  |refine SlsX.o Ak c (fun l c=>?_)
  |refine AppX.oA0 c fun l c=>?_
  |refine aP c fun l c=>?_
  |refine aT c fun x c=>?_
  |refine aS c fun a c=>?_
  |exact ⟨_,c,aA []⟩
  |refine aQ c (aA []) fun m v c=>?_
  |refine AndA ?_
  |exact aD c⟩
instance zky {n c}:CI E0 (Py n c) true 339 [aI c] (fun r=>.bool (r)):=by unfold Py;exact aB [1] Tryz.func339
instance zkx {n d c}:CI E0 (Px n d c) true 347 [aI d,Aa c] (fun r=>.bool (r)):=by unfold Px;exact aB [1] Tryz.func347
instance zkw {n d c}:CI E0 (Lv n d c) true 340 [aI d,Aa c] aI:=by unfold Lv;exact aB [] Tryz.func340
instance ziz {n d c}:CI E0 (W4 n d c) true 344 [aI d,Aa c] Aa:=by unfold W4;exact aB [] Tryz.func344
instance zej {n}:CI E0 (Vw n) true 350 [] Aa:=by unfold Vw;exact aB [] Tryz.func350
def z6l (d:A5)(c:A5):List (Nat×Ent):=[(100000,.box 40 (Cb d)),(100001,.box 40 (Cb c))]
def Vn (r:A5×A5×A5):List (Nat×Ent):=[(2,.box 40 (Cb r.1)),(100000,.box 40 (Cb r.2.1)),(100001,.box 40 (Cb r.2.2))]
def Yx (r:A5×A5×A5):AV:=.agg [aI (r.1.fKind),aI (r.1.fNum),.str (r.1.fText)]
def z6c (r:A5×A5×A5):AS:=⟨[(2,.ptr 2 0),(0,.ptr 100000 0),(1,.ptr 100001 0)],Vn r⟩
end
noncomputable section
abbrev z64 {n c e d}:=li (Pe n c e d) (fun b=>⟨[(2,.fn 342 [.ref [aI c]]),(3,.ptr 3 0),(6,.ptr 6 0),(9,.sl 3 (e.map Aa)),(10,aI (((e.map Aa).length:Int))),(11,aI b.1)],[(3,.box 387 [aI b.2.1,aI b.2.2.1,aI b.2.2.2.1,aI b.2.2.2.2.1,.str (b.2.2.2.2.2)]),(6,.box 387 [aI 0,aI 0,aI 0,aI 0,.str (ByteArray.empty)])]⟩) fun _ _=>Pe.eq_2 ..
abbrev z6v {n c}:=jf (Li n c) (fun b=>⟨[(1,.ptr 1 0),(10,.bool (b))],[(1,.box 387 (T9 c))]⟩) fun _=>Li.eq_1 ..
abbrev z65 {n c d}:=jf (Lh n c d) (fun b=>⟨[(2,.ptr 2 0),(3,.ptr 3 0),(4,.ptr 4 0),(29,.bool (b))],[(2,.box 387 (T9 d)),(3,.box 40 (Cb c)),(4,.box 40 [aI 0,aI 0,.str (ByteArray.empty)])]⟩) fun _=>Lh.eq_1 ..
abbrev z82 {n e d f b}:=li (Pz n e d f b) (fun c=>⟨[(1,.sl 3 (d.map Aa)),(3,.ptr 3 0),(5,.ptr 5 0),(6,.ptr 6 0),(22,.sl 3 (d.map Aa)),(23,aI (((d.map Aa).length:Int))),(24,aI c)],[(3,.box 3 [aI f]),(5,.box 40 (Cb e)),(6,.box 40 [aI 0,aI 0,.str (ByteArray.empty)])]⟩) fun _ _=>Pz.eq_2 ..
attribute [instance] z64 z6v z65 z82
theorem z4i {n d c r}(e:Vv n d c=some r):ConG E0.P none (CalF E0.P 351 0) [.ptr 100000 0,.ptr 100001 0] [] (z6l d c) (Yx r) (Vn r):=by
 unfold Vv at e;refine aW (E:=(E0p 2)) (caps:=[]) _ bR rfl rfl rfl rfl rfl ?_;repeat' first
  |refine aE ?_;conv=>whnf
  |exact GX.A (res:=Yx) (meF:=Vn) e z6c
def z6k (d:A5)(c:A5):List (Nat×Ent):=[(100000,.box 40 (Cb d)),(100001,.box 40 (Cb c))]
def Vm (r:A5×A5×A5):List (Nat×Ent):=[(2,.box 40 (Cb r.1)),(100000,.box 40 (Cb r.2.1)),(100001,.box 40 (Cb r.2.2))]
def Yw (r:A5×A5×A5):AV:=.agg [aI (r.1.fKind),aI (r.1.fNum),.str (r.1.fText)]
def z6b (r:A5×A5×A5):AS:=⟨[(2,.ptr 2 0),(0,.ptr 100000 0),(1,.ptr 100001 0)],Vm r⟩
theorem z4h {n d c r}(e:Vu n d c=some r):ConG E0.P none (CalF E0.P 352 0) [.ptr 100000 0,.ptr 100001 0] [] (z6k d c) (Yw r) (Vm r):=by
 unfold Vu at e;refine aW (E:=(E0p 2)) (caps:=[]) _ bS rfl rfl rfl rfl rfl ?_;repeat' first
  |refine aE ?_;conv=>whnf
  |exact GX.A (res:=Yw) (meF:=Vm) e z6b
def z6j (d:A5)(c:A5):List (Nat×Ent):=[(100000,.box 40 (Cb d)),(100001,.box 40 (Cb c))]
def Vl (r:A5×A5×A5):List (Nat×Ent):=[(2,.box 40 (Cb r.1)),(100000,.box 40 (Cb r.2.1)),(100001,.box 40 (Cb r.2.2))]
def Yv (r:A5×A5×A5):AV:=.agg [aI (r.1.fKind),aI (r.1.fNum),.str (r.1.fText)]
def z6a (r:A5×A5×A5):AS:=⟨[(2,.ptr 2 0),(0,.ptr 100000 0),(1,.ptr 100001 0)],Vl r⟩
theorem z4g {n d c r}(e:Vt n d c=some r):ConG E0.P none (CalF E0.P 353 0) [.ptr 100000 0,.ptr 100001 0] [] (z6j d c) (Yv r) (Vl r):=by
 unfold Vt at e;refine aW (E:=(E0p 2)) (caps:=[]) _ bT rfl rfl rfl rfl rfl ?_;repeat' first
  |refine aE ?_;conv=>whnf
  |exact GX.A (res:=Yv) (meF:=Vl) e z6a
def z6i (c:A5):List (Nat×Ent):=[(100000,.box 40 (Cb c))]
def Vk (r:A5×A5):List (Nat×Ent):=[(1,.box 40 (Cb r.1)),(100000,.box 40 (Cb r.2))]
def Yu (r:A5×A5):AV:=.agg [aI (r.1.fKind),aI (r.1.fNum),.str (r.1.fText)]
def z69 (r:A5×A5):AS:=⟨[(1,.ptr 1 0),(0,.ptr 100000 0)],Vk r⟩
theorem z4f {n c r}(d:Vs n c=some r):ConG E0.P none (CalF E0.P 354 0) [.ptr 100000 0] [] (z6i c) (Yu r) (Vk r):=by
 unfold Vs at d;refine aW (E:=(E0p 1)) (caps:=[]) _ bU rfl rfl rfl rfl rfl ?_;repeat' first
  |refine aE ?_;conv=>whnf
  |exact GX.A (res:=Yu) (meF:=Vk) d z69
def z6h (c:A5):List (Nat×Ent):=[(100000,.box 40 (Cb c))]
def Vj (r:A5×A5):List (Nat×Ent):=[(1,.box 40 (Cb r.1)),(100000,.box 40 (Cb r.2))]
def Yt (r:A5×A5):AV:=.agg [aI (r.1.fKind),aI (r.1.fNum),.str (r.1.fText)]
def z68 (r:A5×A5):AS:=⟨[(1,.ptr 1 0),(0,.ptr 100000 0)],Vj r⟩
theorem z4e {n c r}(d:Vr n c=some r):ConG E0.P none (CalF E0.P 355 0) [.ptr 100000 0] [] (z6h c) (Yt r) (Vj r):=by
 unfold Vr at d;refine aW (E:=(E0p 1)) (caps:=[]) _ bV rfl rfl rfl rfl rfl ?_;repeat' first
  |refine aE ?_;conv=>whnf
  |exact GX.A (res:=Yt) (meF:=Vj) d z68
instance zi5 {n f e d}:CI E0 (T6 n f e d) true 348 [aI f,Aa e,Aa d] Aa:=⟨fun {r} c=>by
 unfold T6 at c;refine cw Tryz.func348 ?_;repeat' first
  |refine aE ?_;conv=>whnf
  |refine NatX.oS c rfl (fun c=>?_) (fun c=>?_)
  |(cases c;done)
  |refine aS c fun a c=>?_
  |refine Be.oM (Ca 15 c) [(100000,4),(100001,5)] [(2,16000000),(100000,4),(100001,5)] _ _ Vn Yx [] (fun a h=>bL (z4i h)) (B7 bR rfl rfl) rfl rfl rfl ⟨⟨rfl,rfl⟩,⟨⟨rfl,rfl⟩,trivial⟩⟩ (fun a=>⟨rfl,rfl,rfl,rfl,rfl,rfl,rfl,rfl⟩) (fun a c=>?_)
  |refine Be.oM (Ca 15 c) [(100000,4),(100001,5)] [(2,16000000),(100000,4),(100001,5)] _ _ Vm Yw [] (fun a h=>bL (z4h h)) (B7 bS rfl rfl) rfl rfl rfl ⟨⟨rfl,rfl⟩,⟨⟨rfl,rfl⟩,trivial⟩⟩ (fun a=>⟨rfl,rfl,rfl,rfl,rfl,rfl,rfl,rfl⟩) (fun a c=>?_)
  |refine Be.oM (Ca 15 c) [(100000,4),(100001,5)] [(2,16000000),(100000,4),(100001,5)] _ _ Vl Yv [] (fun a h=>bL (z4g h)) (B7 bT rfl rfl) rfl rfl rfl ⟨⟨rfl,rfl⟩,⟨⟨rfl,rfl⟩,trivial⟩⟩ (fun a=>⟨rfl,rfl,rfl,rfl,rfl,rfl,rfl,rfl⟩) (fun a c=>?_)
  |refine Be.oM (Ca 15 c) [(100000,4)] [(1,16000000),(100000,4)] _ _ Vk Yu [] (fun a h=>bL (z4f h)) (B7 bU rfl rfl) rfl rfl rfl ⟨⟨rfl,rfl⟩,trivial⟩ (fun a=>⟨rfl,rfl,rfl,rfl,rfl,rfl,rfl,rfl⟩) (fun a c=>?_)
  |refine Be.oM (Ca 15 c) [(100000,5)] [(1,16000000),(100000,5)] _ _ Vj Yt [] (fun a h=>bL (z4e h)) (B7 bV rfl rfl) rfl rfl rfl ⟨⟨rfl,rfl⟩,trivial⟩ (fun a=>⟨rfl,rfl,rfl,rfl,rfl,rfl,rfl,rfl⟩) (fun a c=>?_)
  |exact aD c⟩
instance zj0 {n d c}:CI E0 (W5 n d c) true 343 [Eo d,Eo c] Eo:=by unfold W5;exact aB [] Tryz.func343
instance zmt {n e d c}:CI E0 (W8 n e d c) true 342 [Eo e,Aa d,.ref [aI c]] Eo:=by unfold W8;exact aB [] Tryz.func342
instance zj1 {n d c b}:CI E0 (T8 n d c b) true 341 [Eo d,.sl 3 (c.map Aa),.fn 342 [.ref [aI b]]] Eo:=by unfold T8;exact aB [] Tryz.func341
instance zkz {n c}:CI E0 (Tg n c) true 349 [Eo c] aI:=by unfold Tg;exact aB [3,7,9,11,6] Tryz.func349
instance zj2 {n d c}:CI E0 (Ps n d c) true 345 [Eo d,Aa c] (fun r=>.tup [Aa r.1,aI r.2]):=by unfold Ps;exact aB [9] Tryz.func345
instance zo9 {n f e d}:CI E0 (Q8 n f e d) true 331 [aI f,.sl 3 (e.map Aa),Aa d] (fun r=>.tup [Aa r.1,aI r.2]):=⟨fun {r} c=>by
 unfold Q8 at c;refine cw Tryz.func331 ?_;repeat' first
  |refine aE ?_;conv=>whnf
  |refine aO c (fun c=>?_) fun c=>?_
  |refine aS c fun a c=>?_
  |refine Be.I c (fun a c=>?_) rfl rfl fun _=>Or.inr rfl
  |refine aT c fun x c=>?_
  |exact ⟨_,c,aA []⟩
  |refine aQ c (aA []) fun m v c=>?_
  |exact aD c⟩
instance zt8 {n c}:CI E0 (U8 n c) true 138 [aI c] (fun r=>.bool (r)):=by unfold U8;exact aB [] Tryz.func138
instance zqn {n d c}:CI E0 (Du n d c) true 100 [aI d,aI c] aI:=by unfold Du;exact aB [] Tryz.func100
end
noncomputable section
abbrev zl0 {n d b}:=li (Qb n d b) (fun c=>⟨[(3,aI 0),(6,.sl 1 (d.map aI)),(7,aI (((d.map aI).length:Int))),(8,aI c)],[]⟩) fun _ _=>Qb.eq_2 ..
abbrev z4a {n e d b}:=li (Oi n e d b) (fun c=>⟨[(0,.sl 4 (d.map B9)),(1,.sl 4 (e.map B9)),(2,.fn 97 []),(11,.sl 4 (d.map B9)),(12,aI (((d.map B9).length:Int))),(13,aI c)],[]⟩) fun _ _=>Oi.eq_2 ..
abbrev z10 {n e d b}:=li (N8 n e d b) (fun c=>⟨[(0,.sl 2 (d.map Ae)),(1,.sl 2 (e.map Ae)),(2,.fn 137 []),(11,.sl 2 (d.map Ae)),(12,aI (((d.map Ae).length:Int))),(13,aI c)],[]⟩) fun _ _=>N8.eq_2 ..
attribute [instance] zl0 z4a z10
instance zwz {n c}:CI E0 (Fp n c) true 98 [.sl 1 (c.map aI)] aI:=by unfold Fp;exact aB [] Tryz.func98
instance zrc {n d c}:CI E0 (Tz n d c) true 99 [C3 d,C3 c] aI:=by unfold Tz;exact aB [] Tryz.func99
instance zkp {n d c}:CI E0 (Te n d c) true 97 [B9 d,B9 c] aI:=by unfold Te;exact aB [] Tryz.func97
instance zfa {n d c}:CI E0 (Sf n d c) true 96 [.sl 4 (d.map B9),.sl 4 (c.map B9),.fn 97 []] aI:=by unfold Sf;exact aB [] Tryz.func96
instance znu {n d c}:CI E0 (Q2 n d c) true 58 [Ap d,Ap c] aI:=by unfold Q2;exact aB [] Tryz.func58
instance znt {n d c}:CI E0 (Tl n d c) true 137 [Ae d,Ae c] aI:=by unfold Tl;exact aB [] Tryz.func137
instance zaf {n d c}:CI E0 (Rq n d c) true 136 [.sl 2 (d.map Ae),.sl 2 (c.map Ae),.fn 137 []] aI:=by unfold Rq;exact aB [] Tryz.func136
instance zql {n d c}:CI E0 (Tt n d c) true 93 [Ak d,Ak c] aI:=by unfold Tt;exact aB [] Tryz.func93
end
noncomputable section
abbrev z5i {n e d b}:=li (L8 n e d b) (fun c=>⟨[(1,aI e),(5,.row 7023),(9,.sl 17 (d.fEdges.map Ax)),(10,aI (((d.fEdges.map Ax).length:Int))),(11,aI c.1)],[(7023,.row 3 1 (c.2.map aI))]⟩) fun _ _=>L8.eq_2 ..
abbrev z63 {n b e c}:=li (Pd n b e c) (fun d=>⟨[(3,.row 7016),(6,.sl 8 (e.map idA)),(7,aI (((e.map idA).length:Int))),(8,aI d.1)],[(7016,.row 42 8 (d.2.map idA))]⟩) fun _ _=>Pd.eq_2 ..
abbrev z2i {n d b}:=li (Nu n d b) (fun c=>⟨[(3,.row 7016),(6,.sl 8 (d.map idA)),(7,aI (((d.map idA).length:Int))),(8,aI c.1)],[(7016,.row 42 8 (c.2.map idA))]⟩) fun _ _=>Nu.eq_2 ..
abbrev z6o {n e d b}:=li (Po n e d b) (fun c=>⟨[(2,.ptr 2 0),(7,.row 7037),(23,.sl 1 (d.map aI)),(24,aI (((d.map aI).length:Int))),(25,aI c.1)],[(2,.box 25 (Bf e)),(7037,.row 46 17 (c.2.map Ax))]⟩) fun _ _=>Po.eq_2 ..
abbrev zb1 {n b f e c}:=li (Q7 n b f e c) (fun d=>⟨[(2,.ptr 2 0),(3,.ptr 3 0),(50,aI (((e.fArgs.map idA).length:Int))),(51,aI d)],[(2,.box 42 (Ck e)),(3,.box 42 (Ck f))]⟩) fun _ _=>Q7.eq_2 ..
abbrev zb2 {n b d e}:=jf (Fk n b d e) (fun c=>⟨[(2,.ptr 2 0),(3,.ptr 3 0),(47,.bool (c))],[(2,.box 42 (Ck e)),(3,.box 42 (Ck d))]⟩) fun _=>Fk.eq_1 ..
abbrev z16 {n}:=jf (Gv n) (fun b=>⟨[(4,.bool (b))],[]⟩) fun _=>Gv.eq_1 ..
abbrev z2a {n e d b}:=li (Np n e d b) (fun c=>⟨[(1,.sl 11 (e.map B0)),(2,.fn 85 []),(15,.sl 11 (d.map B0)),(16,aI (((d.map B0).length:Int))),(17,aI c)],[]⟩) fun _ _=>Np.eq_2 ..
abbrev z1p {n e d b}:=li (Ni n e d b) (fun c=>⟨[(1,.sl 8 (e.map idA)),(2,.fn 86 []),(15,.sl 8 (d.map idA)),(16,aI (((d.map idA).length:Int))),(17,aI c)],[]⟩) fun _ _=>Ni.eq_2 ..
abbrev z5b {n e d b}:=li (P0 n e d b) (fun c=>⟨[(0,.sl 1 (d.map aI)),(1,.sl 1 (e.map aI)),(12,aI (((d.map aI).length:Int))),(13,aI c)],[]⟩) fun _ _=>P0.eq_2 ..
abbrev z5a {n e d b}:=li (Oz n e d b) (fun c=>⟨[(0,.sl 2 (d.map Bl)),(1,.sl 2 (e.map Bl)),(12,aI (((d.map Bl).length:Int))),(13,aI c)],[]⟩) fun _ _=>Oz.eq_2 ..
abbrev z4j {n}:=jf (E7 n) (fun b=>⟨[(4,.bool (b))],[]⟩) fun _=>E7.eq_1 ..
attribute [instance] z5i z63 z2i z6o zb1 zb2 z16 z2a z1p z5b z5a z4j
instance zi4 {n e d}:CI E0 (Iu n e d) false 29 [C1 e,aI d] (fun r=>.sl 1 (r.map aI)):=⟨fun {r} c=>by
 unfold Iu at c;refine cw Tryz.func29 ?_;repeat' first
  |refine aN c fun c=>?_
  |refine aH [5] ?_;conv=>whnf
  |refine aO c (fun c=>?_) fun c=>?_
  |refine bK ?_
  |refine bP ?_
  |refine aT c fun x c=>?_
  |refine aP c fun l c=>?_
  |exact ⟨_,c,aA [(7023,23)]⟩
  |exact ⟨_,c,aA []⟩
  |refine aQ c ?_ fun m v c=>?_
  |exact aJ (aK 5 7023 3 1 rfl rfl) (aA [])
  |refine AndA ?_
  |refine bA ?_
  |exact aD c⟩
def z1t (r:(List AV)):AV:=.sl 8 (r.map idA)
theorem z6n {n:Nat}{b:Av->Option (Av)}{d:(List AV)}{r:(List AV)}(e:∀ {d:Av} {r:Av},b d=some r->Con E0 false 47 [Al d] ((Al r)))(c:W3 n b d=some r):Con E0 false 48 [.sl 8 (d.map idA)] (z1t r):=by
 unfold W3 at c;refine Con.walk _ bH rfl (B7 bH rfl rfl) rfl (Or.inl rfl) ?_;repeat' first
  |refine aE ?_;conv=>whnf
  |refine aO c (fun c=>?_) fun c=>?_
  |refine bK ?_
  |refine bP ?_
  |refine aL c Dn (fun x c=>?_)
  |refine bO c (fun r=>.agg [aI (r.fOp),.sl 8 (r.fArgs.map idA),aI (r.fVar),aI (r.fField),aI (r.fKind),aI (r.fValue.fKind),aI (r.fValue.fNum),.str (r.fValue.fText)]) (fun a h=>e h) (fun a c=>?_)
  |refine aP c fun l c=>?_
  |exact ⟨_,c,aA [(7016,16)]⟩
  |refine aQ c ?_ fun m v c=>?_
  |exact aJ (aK 3 7016 42 8 rfl rfl) (aA [])
  |refine AndA ?_
  |refine bA ?_
  |exact aD c
theorem z5g {n d r}(c:Ge n d=some r):Con E0 false 47 [Al d] ((Al r)):=by
 induction n generalizing d r
 case zero=>cases c
 case succ n e =>
 unfold Ge at c;refine cw Tryz.func47 ?_;repeat' first
  |refine aE ?_;conv=>whnf
  |refine aO c (fun c=>?_) fun c=>?_
  |refine bK ?_
  |refine bP ?_
  |refine bO c z1t (fun a h=>z6n e h) (fun a c=>?_)
  |refine AndA ?_
  |refine bA ?_
  |exact aD c
instance ziy {n c}:CI E0 (Ge n c) false 47 [Al c] Al:=⟨z5g⟩
instance zcs {n d}:CI E0 (Vh n d) false 48 [.sl 8 (d.map idA)] (fun r=>.sl 8 (r.map idA)):=⟨fun {r} c=>by
 unfold Vh at c;refine cw bH ?_;repeat' first
  |refine aE ?_;conv=>whnf
  |refine aO c (fun c=>?_) fun c=>?_
  |refine bK ?_
  |refine bP ?_
  |refine aL c Dn (fun x c=>?_)
  |refine aS c fun a c=>?_
  |refine aP c fun l c=>?_
  |exact ⟨_,c,aA [(7016,16)]⟩
  |refine aQ c ?_ fun m v c=>?_
  |exact aJ (aK 3 7016 42 8 rfl rfl) (aA [])
  |refine AndA ?_
  |refine bA ?_
  |exact aD c⟩
set_option maxHeartbeats 400000 in
theorem zl3 (l:List (Cel 1))(S:Nat->Prop)(v:Value)(w:World)(h:Sl w S 1 encC v l)(f:l.length<=1000000000) :
  Calls bC 49 #[v] w (Ms 3 1 encC l w):=by
 have eok:EOk bC 43 3 1 8 (encC (n:=1)):=eokC (sz:=1) (Ee 43 _ rfl) rfl (Ee 3 _ rfl) (by omega) rfl;obtain ⟨A,c,rfl,i,_⟩:=h.form;have d:=fun (W:World)=>Lib.run_eql_slice_nil W 43 3 A l.length c 0 0 Tryz.underlying43
 have H:=hide h;cases A with
 |none =>
  have j:l=[]:=h.none_nil;subst j;clear h H f i;simp only [length_nil,Option.isNone_none] at d ⊢
  go_enter bI,bW
  go_wp2
  go_ret
  exact ⟨none,0,rfl,Own.nil_,by go_grown⟩
 |some ad =>
  clear h
  go_enter bI,bW
  go_wp2_with (at_builtin;refine Lw rfl _ _ rfl eok rfl Own.made_ rfl (H.out.alloc _) (by simp;omega) (by omega) (by simp) ?_;intro A' k w1 e g _)
  go_ret
  exact ⟨A',k,rfl,e,(Own.made_ (sz:=1) (enc:=encC (n:=1))).grown ((Below.refl _ _).alloc (aF _) _) (aF _) (by simp) g⟩
theorem zi7 {n a r}(c:Cl n a=some r):ConT E0 49 [.sl 1 (List.map aI a)] 3 1 (List.map aI r) (.row 0):=Qe rfl (B7 bI rfl rfl) zl3 c
theorem zks {n a r}(c:Cl n a=some r):Con E0 false 49 [.sl 1 (List.map aI a)] (.sl 1 (List.map aI r)):=(zi7 c).close rfl
set_option maxHeartbeats 400000 in
theorem zl2 (l:List (Cel 2))(S:Nat->Prop)(v:Value)(w:World)(h:Sl w S 2 encC v l)(f:l.length<=1000000000) :
  Calls bC 50 #[v] w (Ms 115 2 encC l w):=by
 have eok:EOk bC 44 115 2 16 (encC (n:=2)):=eokC (sz:=2) (Ee 44 _ rfl) rfl (Ee 115 _ rfl) (by omega) rfl;obtain ⟨A,c,rfl,i,_⟩:=h.form;have d:=fun (W:World)=>Lib.run_eql_slice_nil W 44 115 A l.length c 0 0 Tryz.underlying44
 have H:=hide h;cases A with
 |none =>
  have j:l=[]:=h.none_nil;subst j;clear h H f i;simp only [length_nil,Option.isNone_none] at d ⊢
  go_enter bJ,bX
  go_wp2
  go_ret
  exact ⟨none,0,rfl,Own.nil_,by go_grown⟩
 |some ad =>
  clear h
  go_enter bJ,bX
  go_wp2_with (at_builtin;refine Lw rfl _ _ rfl eok rfl Own.made_ rfl (H.out.alloc _) (by simp;omega) (by omega) (by simp) ?_;intro A' k w1 e g _)
  go_ret
  exact ⟨A',k,rfl,e,(Own.made_ (sz:=2) (enc:=encC (n:=2))).grown ((Below.refl _ _).alloc (aF _) _) (aF _) (by simp) g⟩
theorem zi6 {n a r}(c:Cl n a=some r):ConT E0 50 [.sl 2 (List.map Bl a)] 115 2 (List.map Bl r) (.row 0):=Qe rfl (B7 bJ rfl rfl) zl2 c
theorem zkr {n a r}(c:Cl n a=some r):Con E0 false 50 [.sl 2 (List.map Bl a)] (.sl 2 (List.map Bl r)):=(zi6 c).close rfl
instance znx {n d}:CI E0 (Tn n d) false 30 [Ax d] Ax:=⟨fun {r} c=>by
 unfold Tn at c;refine cw Tryz.func30 ?_;repeat' first
  |refine aE ?_;conv=>whnf
  |refine aO c (fun c=>?_) fun c=>?_
  |refine bK ?_
  |refine bP ?_
  |refine aS c fun a c=>?_
  |refine bO c (fun q=>AV.sl 1 (List.map aI q)) (fun a h=>zks h) (fun a c=>?_)
  |refine bO c (fun q=>AV.sl 2 (List.map Bl q)) (fun a h=>zkr h) (fun a c=>?_)
  |refine AndA ?_
  |refine bA ?_
  |exact aD c⟩
instance zku {n e d}:CI E0 (Tf n e d) false 9 [C1 e,aI d] (fun r=>.tup [.sl 17 (r.1.map Ax),aI r.2]):=⟨fun {r} c=>by
 unfold Tf at c;refine cw Tryz.func9 ?_;repeat' first
  |refine aE ?_;conv=>whnf
  |refine aO c (fun c=>?_) fun c=>?_
  |refine bK ?_
  |refine bP ?_
  |refine aS c fun a c=>?_
  |refine aT c fun x c=>?_
  |refine aP c fun l c=>?_
  |exact ⟨_,c,aA [(7037,37)]⟩
  |refine aQ c ?_ fun m v c=>?_
  |exact aJ (aK 7 7037 46 17 rfl rfl) (aA [])
  |refine AndA ?_
  |refine bA ?_
  |exact aD c⟩
def zld (r:Bool):AV:=.bool (r)
theorem z9z {n e d r}(c:D6 n e d=some r):Con E0 true 86 [Al e,Al d] (.bool (r)):=by
 induction n generalizing e d r
 case zero=>cases c
 case succ n f =>
 unfold D6 at c;refine cw Tryz.func86 ?_;repeat' first
  |refine bG c (fun v c=>?_) fun c=>?_
  |refine aN c fun c=>?_
  |refine aH [1] ?_;conv=>whnf
  |refine aO c (fun c=>?_) fun c=>?_
  |refine bK ?_
  |refine bP ?_
  |refine aL c Dn (fun x c=>?_)
  |refine bO c zld (fun a h=>f h) (fun a c=>?_)
  |exact ⟨_,c,aA []⟩
  |refine aQ c (aA []) fun m v c=>?_
  |refine AndA ?_
  |refine bA ?_
  |exact aD c
instance zt5 {n d c}:CI E0 (D6 n d c) true 86 [Al d,Al c] (fun r=>.bool (r)):=⟨z9z⟩
instance zah {n d c}:CI E0 (Rr n d c) true 85 [B0 d,B0 c] (fun r=>.bool (r)):=by unfold Rr;exact aB [1] Tryz.func85
instance zco {n d c}:CI E0 (Vg n d c) true 84 [.sl 11 (d.map B0),.sl 11 (c.map B0),.fn 85 []] (fun r=>.bool (r)):=by unfold Vg;exact aB [] Tryz.func84
instance zcr {n d c}:CI E0 (P2 n d c) true 52 [.sl 11 (d.map B0),.sl 11 (c.map B0)] (fun r=>.bool (r)):=by unfold P2;exact aB [] Tryz.func52
instance zbb {n e d}:CI E0 (Oh n e d) true 87 [.sl 8 (e.map idA),.sl 8 (d.map idA),.fn 86 []] (fun r=>.bool (r)):=⟨fun {r} c=>by
 unfold Oh at c;refine cw Tryz.func87 ?_;repeat' first
  |refine aE ?_;conv=>whnf
  |refine aO c (fun c=>?_) fun c=>?_
  |refine bK ?_
  |refine bP ?_
  |refine aL c Dn (fun x c=>?_)
  |refine aS c fun a c=>?_
  |exact ⟨_,c,aA []⟩
  |refine aQ c (aA []) fun m v c=>?_
  |refine AndA ?_
  |refine bA ?_
  |exact aD c⟩
instance zhu {n d c}:CI E0 (Ga n d c) true 88 [.sl 1 (d.map aI),.sl 1 (c.map aI)] (fun r=>.bool (r)):=by unfold Ga;exact aB [] Tryz.func88
instance zht {n d c}:CI E0 (Pp n d c) true 89 [.sl 2 (d.map Bl),.sl 2 (c.map Bl)] (fun r=>.bool (r)):=by unfold Pp;exact aB [] Tryz.func89
end
end Go.Proofs.YtkoamfnbbhfaiaaGreatDoor
