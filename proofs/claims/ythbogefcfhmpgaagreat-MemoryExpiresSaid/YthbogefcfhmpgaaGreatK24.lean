/- Layer 25, plainly. -/
import Derived.Test.YthbogefcfhmpgaaGreatK23
set_option linter.unusedVariables false
set_option linter.unusedSimpArgs false
set_option maxRecDepth 100000
namespace Go.Proofs.YthbogefcfhmpgaaGreat
open Go.RowKit List
open List renaming length_map->aA,getElem_mem->aB,drop_eq_getElem_cons->aD,getElem?_eq_getElem->aE,mem_singleton->aF,drop_eq_nil_of_le->aG,mem_cons_of_mem->aJ,length_set->aK,any_eq_false->aM,take_append_drop->aO,drop_zero->aP,foldl_cons->aQ,mem_cons->aS,findIdx?_eq_some_iff_getElem->aU,getElem?_set_ne->aV,eq_of_mem_replicate->aW,take_succ_eq_append_getElem->aX,mem_append->bA,pairwise_iff_getElem->bB,mem_or_eq_of_mem_set->bC,nodup_cons->bD,take_of_length_le->bF,getElem?_set_self->bG,replicate->bH,cons_append->bI,length_cons->bJ,map_cons->bK,length_nil->bL,take_zero->bM
open Int renaming natCast_zero->aC
open Option.some renaming inj->aH
open Or renaming inl->aL,inr->aT
open Bool renaming and_eq_true->aN,not_true->aR,not_false->aY
open Nat renaming zero_le->aZ,le_trans->bE
theorem y0z (a b:Rf):Mt N0 a b=some (rCmp a b):=by
 have:Mt (1999999996+4) a b=some (rCmp a b):=by
  unfold Mt;simp only [A0,Nl,y05];rfl
 exact this
structure CIv (a:Aut) (rest:List Ev) (c:Cf):Prop where
 asc:c.fBindings.Pairwise (fun x y=>rCmp x.fRef y.fRef<0)
 bef:∀ b∈c.fBindings,∀ e∈rest,rCmp b.fRef (Bb e)<0
 scp:∀ s∈c.fStarts,(0<=s.fScope/\s.fScope<a.fScopes)/\0<=s.fTime/\s.fTime<=1099511627776
variable {a:Aut}{e:Ev}{r:List Ev}{c:Cf}
theorem CIv.tail (h:CIv a (e::r) c):CIv a r c:=⟨h.asc,fun b f x d=>h.bef b f x (aJ _ d),h.scp⟩
variable {x:Ed}
theorem y5j (w:AOk a){held:List Ev}(m:Str Ck (e::r))(j:Cg e=true)(h:CIv a (e::r) c)(u:x∈a.fEdges){d:Cf}(v:coP a held c x e=some d):CIv a r d:=by
 rw [Wu v];obtain ⟨p,z⟩:=pairwise_cons.1 m;refine ⟨?_,fun b f y g=>?_,fun s hs=>?_⟩
 ·show Pairwise _ (bdN c x e);unfold bdN;rw [pairwise_append];exact ⟨h.asc,pairwise_singleton _ _,fun b f y g=>by rw [aF.1 g];exact h.bef b f e (by simp)⟩
 ·rcases bA.1 f with f|f
  ·exact h.bef b f y (aJ _ g)
  ·rw [aF.1 f];exact p y g
 ·have o:=(mem_filter.1 hs).1;rcases opL_mem e.fTime x.fOpens o with ⟨t,q⟩|k
  ·refine ⟨(w.ed x u).opn _ t,?_⟩;rw [q];unfold Cg at j;simp only [aN,decide_eq_true_eq] at j;exact ⟨j.1,j.2.1⟩
  ·exact h.scp s k
theorem y2s (k:AOk a){held:List Ev}(f:Str Ck (e::r))(j:Cg e=true)(h:CIv a (e::r) c){d:Cf}(b:d∈outP a held c e):CIv a r d:=by
 unfold outP at b;rcases bA.1 b with b|b
 ·split at b
  ·rw [aF.1 b];exact h.tail
  ·simp at b
 ·obtain ⟨x,g,b⟩:=mem_filterMap.1 b;exact y5j k f j h (Mw g).1 b
theorem y5n (j:AOk a){held:List Ev}(b:Str Ck (e::r))(f:Cg e=true){cs:List Cf}(h:∀ c∈cs,CIv a (e::r) c):∀ d∈cfN a held cs e,CIv a r d:=fun d g=>by
 obtain ⟨c,h1,k,_⟩:=X0 g;exact y2s j b f (h c h1) k
theorem zrn {held:List Ev}:∀ (p:List Ev) (cs:List Cf) (b:List Ma),(wiP 150 a held (p++[e]) cs b).2.2=true->∃ x m,wiP 150 a held p cs b=(x,m,true)/\wiP 150 a held (p++[e]) cs b=(cfN a held x e,puts B4 m (maN a held x e),true)/\(cfN a held x e).length<=150/\(puts B4 m (maN a held x e)).length<=150
 |[],cs,b,h=>by
  refine ⟨cs,b,rfl,?_⟩;rw [nil_append] at h ⊢;unfold wiP at h ⊢;split at h
  ·cases h
  ·rename_i q;rw [if_neg q];exact ⟨rfl,by omega,by omega⟩
 |f::p,cs,b,h=>by
  rw [bI] at h ⊢;unfold wiP at h ⊢;split at h
  ·cases h
  ·rename_i q;rw [if_neg q,if_neg q];exact zrn p _ _ h
theorem zhz (r:Be)(c:Cf)(f:c.fStarts.length<=1000000)(hs:∀ s∈c.fStarts,(0<=s.fScope/\s.fScope<r.fa.fScopes)/\0<=s.fTime/\s.fTime<=1099511627776)(d:SS c.fStarts):∀ (m k:Nat),k<=c.fStarts.length->c.fStarts.length<m+k->G2 N0 c r (some 0) m (k:Int)=some 0
 |0,k,h1,g=>by omega
 |m+1,k,h1,g=>by
  unfold G2;simp only [aA,A3,B2,Ak,Gw,L1,Am,Ar];by_cases h:k<c.fStarts.length
  ·obtain ⟨⟨q,p⟩,o,j⟩:=hs _ (aB h);have b:=zhz r c f hs d m (k+1) (by omega) (by omega);rw [if_pos (by omega),Af h,if_neg (by omega),if_neg (by omega),if_neg (by omega),if_neg (by omega),Ag k (by omega)];by_cases t:0<k
   ·have:=bB.1 d (k-1) k (by omega) h (by omega);rw [if_pos (by omega),Sv k (by omega) (by omega),Af (by omega:k-1<c.fStarts.length),if_neg (by omega)];exact b
   ·rw [if_neg (by omega)];exact b
  ·rw [if_neg (by omega)]
theorem zi0 (r:Be)(held:List Ev)(hm:HM held r.fheld)(c:Cf)(o:c.fBindings.length<=1000000)(d:BdOk held r.fa.fVars c.fBindings)(f:c.fBindings.Pairwise (fun x y=>rCmp x.fRef y.fRef<0))(K:Option Int)(g:K=some 0):∀ (m k:Nat),k<=c.fBindings.length->c.fBindings.length<m+k->Im N0 c r K m (k:Int)=some 0
 |0,k,h1,p=>by omega
 |m+1,k,h1,p=>by
  unfold Im;simp only [aA,A3,B2,Ak,L0,Kz,Am,Ar,Aw];by_cases h:k<c.fBindings.length
  ·obtain ⟨⟨u,t⟩,j⟩:=d _ (aB h);have b:=zi0 r held hm c o d f K g m (k+1) (by omega) (by omega);have s:(⟨c.fBindings[k].fRef.fTime,c.fBindings[k].fRef.fSource,c.fBindings[k].fRef.fSeq⟩:Rf)=c.fBindings[k].fRef:=rfl;rw [if_pos (by omega),Af h,s,Nd,hm,j];simp only [Am];rw [if_neg (by omega),if_neg (by omega),Ag k (by omega)];by_cases v:0<k
   ·have:=bB.1 f (k-1) k (by omega) h (by omega);have q:(⟨c.fBindings[k-1].fRef.fTime,c.fBindings[k-1].fRef.fSource,c.fBindings[k-1].fRef.fSeq⟩:Rf)=c.fBindings[k-1].fRef:=rfl;rw [if_pos (by omega),Sv k (by omega) (by omega),Af (by omega:k-1<c.fBindings.length),q,y0z,A0,if_neg (by omega)];exact b
   ·rw [if_neg (by omega)];exact b
  ·rw [if_neg (by omega)];exact g
theorem zzc {r:Be}{held:List Ev}(hm:HM held r.fheld){k:Nat}(f:k<=1000)(d:CB held r.fa k c){b:List Ev}(hi:CIv r.fa b c):Ut N0 r c=some 0:=by
 have h1:=d.lb;have h:=d.ls;have g:=d.st;unfold Ut;simp only [B2,Ak,Ld,A3,Am,aA];rw [if_neg (by omega),if_neg (by omega),if_neg (by omega)];have:=zhz r c (by omega) hi.scp d.ss N0 0 (aZ _) (by unfold N0;omega);exact zi0 r held hm c (by omega) d.bd hi.asc _ this N0 0 (aZ _) (by unfold N0;omega)
theorem y4h (e:Ev):W3 N0 e=some (Cg e):=by
 unfold W3 Cg
 simp only [B2,Ak,F8,A3]
 repeat' split
 all_goals (simp_all<;>omega)
theorem y4t (j:Cg e=true)(l:List Cf)(q:l.length<=1000000)(m:∀ c∈l,c.fBindings.length<=1000000)(h:∀ c∈l,CIv a (e::r) c):Wk N0 l e=some 0:=by
 unfold Wk;rw [y4h,j,A0,Aw,Am];rw [zua N0 e (fun _=>false) l (by omega) (by unfold N0;omega) (fun c f=>by
  have k:=m c f;unfold Mn Zy;rw [zu9 N0 e (fun b=>decide (0<=rCmp b.fRef (Bb e))) c.fBindings (by omega) (by unfold N0;omega) (fun b _=>by
   unfold Mm;have g:Ja N0 e=some (Bb e):=rfl;rw [g,A0];have p:(⟨b.fRef.fTime,b.fRef.fSource,b.fRef.fSeq⟩:Rf)=b.fRef:=rfl;have o:(⟨(Bb e).fTime,(Bb e).fSource,(Bb e).fSeq⟩:Rf)=Bb e:=rfl;simp only [p,o,y0z,A0]),A0,A0]
  congr 1;rw [aM];intro b d;have:=(h c f).bef b d e (by simp);simp only [decide_eq_true_eq];omega),A0]
 have:(l.any fun _=>false)=false:=by rw [aM];simp
 rw [this,Ar]
theorem zxv:∀ (l p r:List Ev),chk p (l++r)=0->chk p l=0
 |[],p,r,_=>by unfold chk;rfl
 |e::l,p,r,h=>by
  rw [bI] at h;unfold chk at h ⊢;split at h
  ·cases h
  split at h
  ·cases h
  split at h
  ·cases h
  rename_i h1 d b;rw [if_neg h1,if_neg d,if_neg b];exact zxv l (e::p) r h
variable {l:List Ev}
theorem ztr (h:D7 (l++r)=0):D7 l=0:=by
 unfold D7 at h ⊢;split at h
 ·cases h
 ·rename_i q;rw [length_append] at q;rw [if_neg (by omega)];exact zxv l [] r h
structure GS (a:Aut) (l:List Ev):Prop where
 wf:WfA a
 few:FewA a
 ok:AOk a
 chk:G3 N0 a=some 0
 acheck:Cs N0 a=some 0
 str:D7 l=0
 len:l.length<=12
 sm:(wiP 150 a l l [cf0] []).2.2=true
theorem GS.so (h:GS a l):y3u l:=ze4 h.str
theorem GS.cx (h:GS a l):CxA a l:=⟨h.wf,h.ok,fun x b=>by have:=h.few.2 x b;omega,by have:=h.len;omega⟩
theorem GS.pre (h:GS a l)(i:Nat):D7 (l.take i)=0:=by
 have:=h.str;rw [<-aO i l] at this;exact ztr this
theorem GS.edges (h:GS a l):a.fEdges.length<=100:=by have:=h.few.1;omega
theorem GS.begin (h:GS a l)(i:Nat):∃ d,HM (l.take i) d/\J8 N0 a (l.take i)=some (some ⟨a,d⟩,0):=by
 have j:=h.len;obtain ⟨q,b,f⟩:=zqd a h.wf (l.take i) (by rw [length_take];omega);have g:q=0:=by
  unfold H5 at b;rw [h.chk,A0,Aw,A3,if_pos rfl,zw9 N0 _ (by grind) (by rw [length_take];omega),A0,h.pre i] at b;exact (aH b).symm
 simp_all
structure Gd57 (a:Aut) (l:List Ev) (i:Nat) (c:Cf):Prop where
 cb:CB l a (i+20) c
 ci:CIv a (l.drop i) c
theorem CB.mono {k m:Nat}(h:CB l a k c)(b:k<=m):CB l a m c:=⟨h.st,h.bd,h.ss,bE h.lb b,bE h.ls (Nat.mul_le_mul_left _ b)⟩
theorem gd0 (h:GS a l):Gd57 a l 0 cf0:=⟨(cb0 h.ok).mono (aZ _),by simp,fun b d=>by simp at d,fun s hs=>by simp at hs⟩
variable {i:Nat}
theorem Gd57.held (h:GS a l)(d:Gd57 a l i c):CB (l.take i) a (i+20) c:=by
 refine ⟨d.cb.st,fun b f=>⟨(d.cb.bd b f).1,?_⟩,d.cb.ss,d.cb.lb,d.cb.ls⟩;have h1:=(d.cb.bd b f).2;rw [<-aO i l,y36] at h1;cases g:lkH (l.take i) b.fRef with
 |some e=>rfl
 |none =>
  rw [g] at h1;obtain ⟨e,j⟩:=Option.isSome_iff_exists.1 h1;obtain ⟨m,k⟩:=zjn (by simpa using j);have:=d.ci.bef b f e k;rw [m] at this;have:=N8.lt_ne this;exact absurd rfl this
theorem Gd57.ok (h:GS a l)(hi:i<=12)(b:Gd57 a l i c):cfOk c=true:=b.cb.sz.ok (by omega)
theorem Gd57.cs (h:GS a l)(hi:i<=12)(b:Gd57 a l i c):CS (Ht a) c:=by
 have h1:=b.cb.st;have f:=b.cb.lb;have d:=b.cb.ls;exact ⟨by rw [(y0o a).1.len];exact h1,by omega,by omega⟩
theorem y3n (hi:i<l.length):l.drop i=l[i]::l.drop (i+1):=aD hi
theorem zyr (h:Str Ck l)(i:Nat):Str Ck (l.drop i):=Pairwise.sublist (drop_sublist i l) h
theorem Gd57.next (h:GS a l)(hi:i<l.length){cs:List Cf}(j:∀ c∈cs,Gd57 a l i c):∀ d∈cfN a l cs l[i],Gd57 a l (i+1) d:=fun d g=>by
 have so:=h.so;have e:=y3n hi;refine ⟨(zxy h.cx so.st (fun c b=>(j c b).cb) (aB hi) d g).mono (by omega),?_⟩;have f:=zyr so.st i;rw [e] at f;refine y5n h.ok f (so.pl _ (aB hi)) (fun c b=>?_) d g;have:=(j c b).ci;rw [e] at this;exact this
theorem Gd57.lk (h:GS a l){cs:List Cf}(g:∀ c∈cs,Gd57 a l i c):∀ c∈cs,∀ b∈c.fBindings,lkH (l.take i) b.fRef=lkH l b.fRef :=
 y6m h.so.st (fun y f=>mem_of_mem_take f) (fun c d=>(g c d).held h)
variable {α:Type}{n:Nat}
theorem zb6 {l:List α}(h:l.length<=1000000000):Cm n l=some l:=by unfold Cm;exact if_pos h
def covd (R:List Mp)(l:List Cf)(d:Cf):Bool:=l.any (fun c=>cov R c d)
structure y1p (a:Aut) (l:List Ev) (S:List (List Cf)):Prop where
 ln:S.length=l.length+1
 few:∀ i (hi:i<S.length),S[i].length<=4096
 gd:∀ i (hi:i<S.length),∀ c∈S[i],Gd57 a l i c
theorem y1p.cs (h:GS a l){S:List (List Cf)}(b:y1p a l S)(hi:i<S.length):∀ c∈S[i],CS (Ht a) c:=fun c d=>(b.gd i hi c d).cs h (by have:=b.ln;have:=h.len;omega)
abbrev mxT:Int:=1099511627776
theorem zf3 (n:Nat)(rF:Exn->Option Exn)(ys:List Exn)(b:ys.length<=4000000)(rec:∀ y∈ys,rF y=some y):∀ (m k:Nat),k<=ys.length->ys.length<m+k->Qb n rF (ys.map Au) (fun y=>some y) m ((k:Int),(ys.map Au).take k)=some (ys.map Au)
 |0,k,h1,d=>by omega
 |m+1,k,h1,d=>by
  unfold Qb;simp only [aA,A3];by_cases h:k<ys.length
  ·have f:k<(ys.map Au).length:=by simpa using h
   rw [if_pos (by omega),zx3 h,rec _ (aB h),A0,Bv (by simp;omega) (by decide),Ag k (by omega)];have e:(ys.map Au).take k++[Au ys[k]]=(ys.map Au).take (k+1):=by
    rw [aX f,getElem_map]
   rw [e];exact zf3 n rF ys b rec m (k+1) (by omega) (by omega)
  ·rw [if_neg (by omega),bF (by simp;omega)]
theorem zsh:∀ (s:Nat) (e:Exn),ETr s e->s<=4000000->∀ n,s+4000002<n->Gb n e=some e:=by
 intro s
 induction s using Nat.strongRecOn with
 |ind s IH =>
  intro e k hs n o;cases k with
  |mk l e h m =>
   obtain ⟨b,rfl⟩:∃ b,n=b + 1:=⟨n-1,by omega⟩;have q:=S9 (l:=l) (fun p d=>(h p d).pos);simp only [Gb];unfold Yx;have g:e.fArgs=(l.map (·.2)).map Au:=by rw [m,map_map];rfl
   have f:=zf3 b (Gb b) (l.map (·.2)) (by rw [aA];omega) (fun y j=>by
    obtain ⟨p,d,rfl⟩:=mem_map.1 j;have:=Jc d;exact IH p.1 (by omega) p.2 (h p d) (by omega) b (by omega)) b 0 (by omega) (by rw [aA];omega)
   simp only [aC,bM] at f;rw [g,f,A0,<-g]
theorem zcz (n:Nat)(ys:List Exn)(b:ys.length<=4000000)(rec:∀ y∈ys,Gb n y=some y):∀ (m k:Nat),k<=ys.length->ys.length<m+k->O9 n (ys.map Au) (fun y=>some y) m ((k:Int),(ys.map Au).take k)=some (ys.map Au)
 |0,k,h1,d=>by omega
 |m+1,k,h1,d=>by
  unfold O9;simp only [aA,A3];by_cases h:k<ys.length
  ·have f:k<(ys.map Au).length:=by simpa using h
   rw [if_pos (by omega),zx3 h,rec _ (aB h),A0,Bv (by simp;omega) (by decide),Ag k (by omega)];have e:(ys.map Au).take k++[Au ys[k]]=(ys.map Au).take (k+1):=by
    rw [aX f,getElem_map]
   rw [e];exact zcz n ys b rec m (k+1) (by omega) (by omega)
  ·rw [if_neg (by omega),bF (by simp;omega)]
theorem y2h (n:Nat)(u:10000000<n)(x:Ed)(b:WfX x):Vu n x=some x:=by
 obtain ⟨z,f,j⟩:=b.cond;obtain ⟨ys,h,o⟩:=b.checks;have d:=b.lc;have p:ys.length<=1100000:=by rw [h,aA] at d;exact d
 have q:=b.lo;have k:=b.lcl;have t:=b.li;have s:=b.ll;have m:=zcz n ys (by omega) (fun y g=>by
  obtain ⟨z,f,j⟩:=o y g;exact zsh z y j f n (by omega)) n 0 (by omega) (by omega)
 simp only [aC,bM] at m;unfold Vu Xy;rw [zsh z _ j f n (by omega),A0,h,m,A0,zb6 (by omega),A0,zb6 (by omega),A0,zb6 (by omega),A0,zb6 (by omega),A0,<-h]
theorem zi3 (n:Nat)(p:10000000<n)(a:Aut)(g:WfA a)(L:List Int)(s:L.length<=1100000)(o:∀ i∈L,∃ j:Nat,i=(j:Int)/\j<a.fEdges.length):∀ (m k:Nat) (acc:List Ed),k<=L.length->L.length<m+k->acc.length<=k->∃ R,Qk n a L (fun y=>some (y,0)) m ((k:Int),acc)=some (R,0)/\R.length<=L.length/\∀ x,x∈R ↔ x∈acc\/∃ i∈L.drop k,∃ j:Nat,i=(j:Int)/\a.fEdges[j]? = some x
 |0,k,acc,h1,u,t=>by omega
 |m+1,k,acc,h1,u,t=>by
  unfold Qk;simp only [aA,A3];by_cases h:k<L.length
  ·obtain ⟨j,f,d⟩:=o L[k] (aB h);have q:a.fEdges[j]? = some a.fEdges[j]:=aE d;rw [if_pos (by omega),Af h,Ag k (by omega),f,Af d,y2h n p _ (g.ed _ (aB d)),A0,Bv (by simp;omega) (by decide),aD h];obtain ⟨R,z,w,v⟩:=zi3 n p a g L s o m (k+1) (acc++[a.fEdges[j]]) (by omega) (by omega) (by simp;omega);refine ⟨R,z,w,fun x=>?_⟩;rw [v,bA,aF,or_assoc];simp only [aS,exists_eq_or_imp];refine or_congr Iff.rfl (or_congr ⟨fun e=>⟨j,f,by rw [q,e]⟩,fun ⟨i,A,b⟩=>?_⟩ Iff.rfl);have:i=j:=by omega
   rw [this,q] at b;injection b with b
   exact b.symm
  ·rw [if_neg (by omega),aG (by omega)];exact ⟨acc,rfl,by omega,fun x=>by simp⟩
theorem y2r (n:Nat)(p:10000000<n)(a:Aut)(k:WfA a)(D:Cs n a=some 0)(i:Nat)(hi:i<a.fStates.length):∃ R,Vl n a (i:Int)=some (R,0)/\R.length<=1100000/\∀ x,x∈R ↔ x∈a.fEdges/\x.fFrom=(i:Int):=by
 obtain ⟨L,u,G,g⟩:=zmt n p (i:Int) a k.le;have B:=k.le;have A:∀ i∈L,∃ j:Nat,i=(j:Int)/\j<a.fEdges.length:=fun i hi=>by
  obtain ⟨j,o,x,f,_⟩:=(g i).1 hi;exact ⟨j,o,(List.getElem?_eq_some_iff.1 f).1⟩
 obtain ⟨R,t,F,s⟩:=zi3 n p a k L (by omega) A n 0 [] (by omega) (by omega) (by simp);unfold Vl;rw [D,A0,Wq,A0];simp only [aA,Aw,A3,if_true];rw [decide_eq_true (by omega:(0:Int)<=(i:Int)),decide_eq_true (by omega:(i:Int)<(a.fStates.length:Int)),Bool.and_self,Am,u,A0];refine ⟨R,t,by omega,fun x=>?_⟩;rw [s];simp only [not_mem_nil,false_or,aP];constructor
 ·rintro ⟨y,m,j,o,f⟩;obtain ⟨w,v,E,b,h⟩:=(g y).1 m;have:w=j:=by omega
  rw [this,f] at b;injection b with b
  exact ⟨mem_of_getElem? f,b▸h⟩
 ·rintro ⟨z,q⟩;obtain ⟨j,C,e⟩:=mem_iff_getElem.1 z;have d:a.fEdges[j]? = some x:=by rw [aE C,e]
  exact ⟨(j:Int),(g _).2 ⟨j,rfl,x,d,q⟩,j,rfl,d⟩
theorem zew (n:Nat)(s:Int)(l:List Bx)(b:l.length<=1000000000):∀ (m k:Nat),k<=l.length->l.length<m+k->O5 n s l (some (-1)) m (k:Int)=some (Ds (fun y=>decide (y.fScope=s)) k (l.drop k))
 |0,k,h1,d=>by omega
 |m+1,k,h1,d=>by
  unfold O5 Z4;simp only [aA,A3];by_cases h:k<l.length
  ·rw [if_pos (by omega),Af h,B1 l k h,Ge,A0,Ag k (by omega),zew n s l b m (k+1) (by omega) (by omega)];rw [A3];grind
  ·rw [if_neg (by omega),aG (by omega)];rfl
def limP (n:Nat)(x:Ed)(s:Int):Int×Bool:=(Hi n x s).getD (0,false)
theorem zwe (n:Nat)(t:10000000<n)(x:Ed)(p:x.fOpens.length<=1100000)(u:x.fLimits.length<=1100000)(s:Int):Hi n x s=some (limP n x s)/\((limP n x s).1=0\/∃ l∈x.fLimits,(limP n x s).1=l.fSpan)/\((limP n x s).2=true->∃ l∈x.fLimits,l.fScope=s/\¬s∈x.fOpens):=by
 have f:=zew n s x.fLimits (by omega) n 0 (by omega) (by omega);simp only [aC,aP,Fb] at f;have key:∃ r,Hi n x s=some r/\(r.1=0\/∃ l∈x.fLimits,r.1=l.fSpan)/\(r.2=true->∃ l∈x.fLimits,l.fScope=s/\¬s∈x.fOpens):=by
  unfold Hi Tp;rw [f,A0];simp only [B2,Ak,J0,A3,Fa n s x.fOpens (by omega) (by omega),A0];by_cases q:fidx (fun y=>decide (y.fScope=s)) x.fLimits<0
  ·rw [if_pos q,Am];exact ⟨_,rfl,aL rfl,fun h=>by cases h⟩
  ·rw [if_neg q];cases e:(x.fOpens.any fun y=>decide (s=y)) with
   |true=>rw [Am];exact ⟨_,rfl,aL rfl,fun h=>by cases h⟩
   |false =>
    rw [Ar];unfold fidx at q ⊢;cases g:x.fLimits.findIdx? (fun y=>decide (y.fScope=s)) with
    |none=>rw [g] at q;exact absurd (by simp) q
    |some j =>
     obtain ⟨b,o⟩:=aU.1 g;simp only;rw [Af b];refine ⟨_,rfl,aT ⟨_,aB b,rfl⟩,fun _=>⟨_,aB b,by simpa using o.1,fun hm=>?_⟩⟩;have:=aM.1 e s hm;simp at this
 obtain ⟨r,d,m,k⟩:=key;have:limP n x s=r:=by unfold limP;rw [d];rfl
 rw [this];exact ⟨d,m,k⟩
def lmS (n:Nat)(s:Int)(z:Int×Bool)(x:Ed):Int×Bool:=(max z.1 (limP n x s).1,z.2 && (limP n x s).2)
def Fl (n:Nat)(l:List Ed)(s:Int):Int×Bool:=l.foldl (lmS n s) (0,true)
structure LimR (x:Ed):Prop where
 o:x.fOpens.length<=1100000
 l:x.fLimits.length<=1100000
 s:∀ l∈x.fLimits,0<=l.fSpan/\l.fSpan<=mxT
theorem LimR.lim (h:LimR x)(n:Nat)(b:10000000<n)(s:Int):0<=(limP n x s).1/\(limP n x s).1<=mxT:=by
 rcases (zwe n b x h.o h.l s).2.1 with e|⟨l,d,e⟩
 ·rw [e];exact ⟨by omega,by decide⟩
 ·rw [e];exact h.s l d
theorem y57 (n:Nat)(o:10000000<n)(s:Int)(l:List Ed)(h:∀ x∈l,LimR x)(z:Int×Bool)(m:0<=z.1/\z.1<=mxT):(0<=(l.foldl (lmS n s) z).1/\(l.foldl (lmS n s) z).1<=mxT)/\((l.foldl (lmS n s) z).2=true->z.2=true/\∀ x∈l,(limP n x s).2=true):=by
 induction l generalizing z with
 |nil=>exact ⟨m,fun h=>⟨h,by simp⟩⟩
 |cons x r g =>
  have h1:=(h x (by simp)).lim n o s;rw [aQ];obtain ⟨k,j⟩:=g (fun y d=>h y (aJ _ d)) (lmS n s z x) (by unfold lmS;simp only;omega);refine ⟨k,fun q=>?_⟩;obtain ⟨b,f⟩:=j q;unfold lmS at b;simp only [aN] at b;exact ⟨b.1,fun y d=>(aS.1 d).elim (fun e=>e▸b.2) (f y)⟩
theorem zso (n:Nat)(g:10000000<n)(l:List Ed)(o:l.length<=1100000)(h:∀ x∈l,LimR x)(V:Int×Bool×Mp)(p:Int×Bool)(r:Mp)(K:Int->Bool->Mp->Option (Int×Bool)):∀ (m k:Nat) (z:Int×Bool),k<=l.length->l.length<m+k->Mb n l V p r K m (z.1,z.2,(k:Int))=K ((l.drop k).foldl (lmS n p.1) z).1 ((l.drop k).foldl (lmS n p.1) z).2 r
 |0,k,z,h1,q=>by omega
 |m+1,k,z,h1,q=>by
  unfold Mb;simp only [aA,Ak];rw [A3];by_cases d:k<l.length
  ·have f:=h _ (aB d);rw [if_pos (by omega),Af d,(zwe n g _ f.o f.l p.1).1,A0,Ag k (by omega),aD d,aQ];have b:=zso n g l o h V p r K m (k+1) (lmS n p.1 z l[k]) (by omega) (by omega);unfold lmS at b;simp only at b;unfold lmS;obtain ⟨s,j⟩:=z;cases j with
   |true=>rw [Am];simpa using b
   |false=>rw [Ar];simpa using b
  ·rw [if_neg (by omega),aG (by omega)];rfl
def agS (n:Nat)(l:List Ed)(z:Int×Bool)(p:Int×Bool):Int×Bool:=if (Fl n l p.1).2=true/\(z.2=false\/(Fl n l p.1).1<z.1) then ((Fl n l p.1).1,true) else z
theorem y0p (n:Nat)(l:List Ed)(z x y:Int×Bool):agS n l (agS n l z x) y=agS n l (agS n l z y) x:=by
 unfold agS;generalize Fl n l x.1=p;generalize Fl n l y.1=q;obtain ⟨g,b⟩:=z;obtain ⟨j,f⟩:=p;obtain ⟨h,d⟩:=q;cases f<;>cases d<;>cases b<;>simp<;>grind
theorem zsp (n:Nat)(g:10000000<n)(l:List Ed)(k:l.length<=1100000)(h:∀ x∈l,LimR x):∀ (m:Nat) (rem:Mp) (z:Int×Bool),rem.length<m->Hh n l (fun y z=>some (y,z)) m (z.1,z.2,rem)=some (rem.foldl (agS n l) z)
 |0,rem,z,h1=>by omega
 |m+1,rem,z,h1=>by
  unfold Hh;simp only [Ak];by_cases e:rem=[]
  ·subst e;rw [zqj];rfl
  ·have d:∀ (x y:Option (Int×Bool)),nxt rem x y=y:=fun x y=>by
    cases rem with
    |nil=>exact absurd rfl e
    |cons p r=>exact zje p r x y
   rw [d];refine zj6 e fun j o=>?_
   have s:=fun K=>zso n g l k h (z.1,z.2,rem) rem[j] (rem.eraseIdx j) K n 0 (0,true) (by omega) (by omega)
   simp only [aC,aP] at s;rw [s];have b:(rem.eraseIdx j).length<m:=by rw [length_eraseIdx_of_lt o];omega
   have w:(rem[j]::rem.eraseIdx j).Perm rem:=Ry o;have A:=Perm.foldl_eq' (f:=agS n l) w (fun x _ y _ z=>y0p n l z x y) z;rw [<-A,aQ];have v:=zsp n g l k h m (rem.eraseIdx j) (agS n l z rem[j]) b;rw [<-v];unfold agS Fl;obtain ⟨u,t⟩:=z;simp only [Aw];cases B:(l.foldl (lmS n rem[j].1) (0,true)).2 with
   |false=>rw [Ar];simp
   |true =>
    rw [Am];cases t with
    |false=>rw [Ar];simp
    |true =>
     rw [Am,A3];by_cases q:(l.foldl (lmS n rem[j].1) (0,true)).1<u
     ·rw [if_pos q];simp [q]
     ·rw [if_neg q];simp [q]
theorem y5s (n:Nat)(g:10000000<n)(l:List Ed)(h:∀ x∈l,LimR x)(rem:Mp)(z:Int×Bool)(d:0<=z.1/\z.1<=mxT):(0<=(rem.foldl (agS n l) z).1/\(rem.foldl (agS n l) z).1<=mxT)/\((rem.foldl (agS n l) z).2=true->z.2=true\/∃ s,∀ x∈l,(limP n x s).2=true):=by
 induction rem generalizing z with
 |nil=>exact ⟨d,aL⟩
 |cons p r b =>
  have hm:=y57 n g p.1 l h (0,true) ⟨by decide,by decide⟩;rw [aQ];unfold agS;split
  ·rename_i q;obtain ⟨f,j⟩:=b ((Fl n l p.1).1,true) hm.1;exact ⟨f,fun _=>aT ⟨p.1,(hm.2 q.1).2⟩⟩
  ·exact b z d
def Bdd (n:Nat)(a:Aut)(t:Int):Prop:=∃ s,∀ x∈a.fEdges,x.fFrom=t->(limP n x s).2=true
structure AgOk (n:Nat) (a:Aut) (p:C5) (k:Nat) (ag:List Int) (bd:List Bool):Prop where
 l1:ag.length=a.fStates.length
 l2:bd.length=a.fStates.length
 rng:∀ v∈ag,0<=v/\v<=mxT
 bdd:∀ i:Nat,i<k->has p.finner (i:Int)->bd[i]? = some true->Bdd n a (i:Int)
abbrev Scn:=Bc
theorem zwi (n:Nat)(d:10000000<n)(e:Exn)(b:WfE e):∃ r,R4 n e=some r:=by
 obtain ⟨vs,f,k,_⟩:=zq3 b n d;obtain ⟨z,h,j⟩:=b;obtain ⟨r,_,g⟩:=zw2 [] [] (fun v=>by unfold evs;split<;>simp) (-1) ⟨0,0,0,0,[]⟩ z e (fun _ _=>rfl) j h n d;unfold R4;simp only [B2,Ak,Lp];rw [f,A0,g,A0,A3];split
 ·exact ⟨_,rfl⟩
 ·exact ⟨_,rfl⟩
theorem y2l (n:Nat)(b:10000000<n)(g:B9)(x:Ed)(h:x.fInside.length<=1100000):U4 n g x=some (decide (g.fType=x.fType) && !(x.fInside.any fun y=>decide (g.fScope=y))):=by
 unfold U4;simp only [B2,Ak,K7,A3,Fa n g.fScope x.fInside (by omega) (by omega),A0];by_cases q:g.fType=x.fType<;>simp [q]
theorem zn0 (n:Nat)(b:10000000<n)(x:Ed)(h:x.fInside.length<=1100000)(l:List B9)(d:l.length<=1000000000):∀ (m k:Nat),k<=l.length->l.length<m+k->∃ r,O1 n x l (some (-1)) m (k:Int)=some r
 |0,k,h1,g=>by omega
 |m+1,k,h1,g=>by
  unfold O1;simp only [aA];rw [A3];by_cases f:k<l.length
  ·rw [if_pos (by omega),Af f,y2l n b _ x h,A0,Ag k (by omega),Ax];split
   ·exact ⟨_,rfl⟩
   ·exact zn0 n b x h l d m (k+1) (by omega) (by omega)
  ·rw [if_neg (by omega)];exact ⟨_,rfl⟩
theorem zn2 (n:Nat)(v:10000000<n)(x:Ed)(sc:Scn)(u:x.fOpens.length<=1100000)(w:x.fLimits.length<=1100000)(K:Option Bool)(b:Bool)(g:K=some b):∀ (m k:Nat),k<=x.fLimits.length->x.fLimits.length<m+k->∃ r,Ph n x sc K m (k:Int)=some r/\(r=true->∀ l∈x.fLimits.drop k,l.fScope∈x.fOpens)
 |0,k,h1,z=>by omega
 |m+1,k,h1,z=>by
  unfold Ph;simp only [aA];rw [A3];by_cases f:k<x.fLimits.length
  ·rw [if_pos (by omega),Af f,Fa n _ x.fOpens (by omega) (by omega),A0,Ag k (by omega),Aw,Ax,aD f];split
   ·rename_i q;obtain ⟨r,s,p⟩:=zn2 n v x sc u w K b g m (k+1) (by omega) (by omega);refine ⟨r,s,fun t l d=>(aS.1 d).elim (fun e=>?_) (p t l)⟩;obtain ⟨y,o,j⟩:=any_eq_true.1 q;rw [e,of_decide_eq_true j];exact o
   ·exact ⟨false,rfl,fun h=>by cases h⟩
  ·rw [if_neg (by omega),aG (by omega),g];exact ⟨b,rfl,fun _=>by simp⟩
theorem zn3 (n:Nat)(j:10000000<n)(x:Ed)(f:WfX x)(sc:Scn)(K:Option Bool)(P:Prop)(d:Bool)(q:K=some d)(p:d=true->P):∀ (m k:Nat),k<=x.fChecks.length->x.fChecks.length<m+k->∃ r,Pi n x sc K m (k:Int)=some r/\(r=true->P)
 |0,k,h1,u=>by omega
 |m+1,k,h1,u=>by
  obtain ⟨ys,g,s⟩:=f.checks;have t:=f.lc;unfold Pi;simp only [aA];rw [A3];by_cases o:k<x.fChecks.length
  ·have b:k<ys.length:=by rw [g,aA] at o;exact o
   obtain ⟨c,v⟩:=zwi n j ys[k] (s _ (aB b));have e:∀ K:Exn->Option Bool,idxD Cb x.fChecks (k:Int) K=K ys[k]:=fun K=>by rw [g];exact zx3 b K
   rw [if_pos (by omega),e,v,A0,Ag k (by omega),Aw,Ax];split
   ·exact zn3 n j x f sc K P d q p m (k+1) (by omega) (by omega)
   ·exact ⟨false,rfl,fun h=>by cases h⟩
  ·rw [if_neg (by omega),q];exact ⟨d,rfl,p⟩
theorem y4o (n:Nat)(j:10000000<n)(sc:Scn)(x:Ed)(d:WfX x)(k:0<=x.fFrom/\x.fFrom.toNat<sc.fa.fStates.length)(w:∀ s∈sc.fa.fStates,s.fGuards.length<=1100000):∃ r,H7 n sc x=some r/\(r=true->x.fType<(sc.ftypes.length:Int)/\∀ l∈x.fLimits,l.fScope∈x.fOpens):=by
 obtain ⟨c,E⟩:=zwi n j x.fCond d.cond;have z:=d.lo;have B:=d.li;have A:=d.ll;have C:=d.lc;obtain ⟨i,v⟩:=zn0 n j x (by omega) sc.fa.fStates[x.fFrom.toNat].fGuards (by have:=w _ (aB k.2);omega) n 0 (by omega) (by have:=w _ (aB k.2);omega);simp only [aC] at v;have key:∀ b,∃ r,Ic n x sc b=some r/\(r=true->b=false/\∀ l∈x.fLimits,l.fScope∈x.fOpens):=fun b=>by
  unfold Ic;cases b with
  |true=>rw [Am];exact ⟨false,rfl,fun h=>by cases h⟩
  |false =>
   rw [Ar];have D:(idx sc.fa.fStates x.fFrom fun o=>bnd (T8 n o.fGuards x) fun m=>some !(m))=some (!(decide (0<=i))):=by
    rw [zqo k.1 k.2];unfold T8 Xu;rw [v,A0,A0]
   obtain ⟨f,u,t⟩:=zn2 n j x sc (by omega) (by omega) _ _ D n 0 (by omega) (by omega);simp only [aC,aP] at u t;obtain ⟨g,p,y⟩:=zn3 n j x d sc _ (∀ l∈x.fLimits,l.fScope∈x.fOpens) f u t n 0 (by omega) (by omega);simp only [aC] at p;exact ⟨g,p,fun h=>⟨rfl,y h⟩⟩
 unfold H7;simp only [B2,Ak,aA];rw [A3];by_cases q:(sc.ftypes.length:Int)<=x.fType
 ·rw [if_pos q];obtain ⟨r,g,f⟩:=key true;exact ⟨r,g,fun h=>absurd (f h).1 (by simp)⟩
 ·rw [if_neg q,E,A0];obtain ⟨r,g,f⟩:=key (!c);exact ⟨r,g,fun h=>⟨by omega,(f h).2⟩⟩
def frP (n:Nat)(sc:Scn)(x:Ed):Bool:=(H7 n sc x).getD false
structure ScR (q:Scn):Prop extends AutR q.fa where
 w:WfA q.fa
theorem ScR.free {sc:Scn}(h:ScR sc)(n:Nat)(g:10000000<n)(d:x∈sc.fa.fEdges):H7 n sc x=some (frP n sc x)/\(frP n sc x=true->x.fType<(sc.ftypes.length:Int)/\∀ l∈x.fLimits,l.fScope∈x.fOpens):=by
 have j:=h.ed x d;obtain ⟨r,b,f⟩:=y4o n g sc x (h.w.ed x d) (by omega) (fun s hs=>(h.w.st s hs).1);have:frP n sc x=r:=by unfold frP;rw [b];rfl
 rw [this];exact ⟨b,f⟩
def gdk (a:Aut)(s k:Int):Bool:=match a.fStates[s.toNat]? with|some q=>q.fGuards.any (fun g=>decide (g.fType=k))|none=>false
def ptP (a:Aut)(tt:Int)(x:Ed):Bool:=decide (0<=x.fTo) && (!gdk a 0 x.fType && !gdk a tt x.fType)
inductive OpP (E:List Ed):Int->Prop
 |last (x:Ed) (hx:x∈E) (h:x.fTo<0):OpP E x.fFrom
 |step (x:Ed) (hx:x∈E) (h:OpP E x.fTo):OpP E x.fFrom
structure OpOk (E:List Ed) (N:Nat) (M:Mp):Prop where
 mks:MK M
 rg:∀ t,has M t->-1<=t/\t<(N:Int)
 op:∀ t,has M t->t=-1\/OpP E t
inductive Pth (E:List Ed) (tt:Int):Int->List Int->Prop
 |one (x:Ed) (hx:x∈E) (h:x.fTo=tt):Pth E tt x.fFrom [x.fType]
 |cons (x:Ed) (hx:x∈E) {w:List Int} (h:Pth E tt x.fTo w):Pth E tt x.fFrom (x.fType::w)
structure SnOk (N:Nat) (tt:Int) (M:Mp):Prop where
 mks:MK M
 rg:∀ t,has M t->-1<=t/\t<(N:Int)
 no:¬has M tt
structure PRes (E:List Ed) (tt:Int) (N f:Nat) (s:Int) (M:Mp) (w:List Int) (M':Mp):Prop where
 ok:SnOk N tt M'
 mono:∀ t,has M t->has M' t
 ml:M.length<=M'.length
 len:w.length<=f
 yes:w≠[]->Pth E tt s w
def ptE (n:Nat)(sc:Scn)(tt:Int):List Ed:=sc.fa.fEdges.filter (fun x=>frP n sc x && ptP sc.fa tt x)
structure AtOk (N:Nat) (M:Mp):Prop where
 mks:MK M
 rg:∀ t,has M t->0<=t/\t<(N:Int)
theorem Sh {b:Type}{o:Option α}{k:α->Option b}{r:b}(h:bnd o k=some r):∃ a,o=some a/\k a=some r:=by
 unfold bnd at h;cases o with
 |none=>cases h
 |some a=>exact ⟨a,rfl,h⟩
theorem cnd_inv {d:Type}{b:Bool}{x y:Option d}{r:d}(h:cnd b x y=some r):(b=true/\x=some r)\/(b=false/\y=some r):=by
 cases b with
 |true=>rw [Am] at h;exact aL ⟨rfl,h⟩
 |false=>rw [Ar] at h;exact aT ⟨rfl,h⟩
theorem zfi {K:Option Int}:∀ (m:Nat) (k:Int),He n x a K m k=some 0->K=some 0
 |0,k,h=>by unfold He at h;cases h
 |m+1,k,h=>by
  unfold He at h;rcases cnd_inv h with ⟨_,h⟩|⟨_,h⟩
  ·unfold idxD at h;split at h
   ·split at h
    ·split at h
     ·obtain ⟨c,_,h⟩:=Sh h;rcases cnd_inv h with ⟨q,h⟩|⟨_,h⟩
      ·injection h with h;subst h;simp at q
      ·exact zfi m _ h
     ·cases h
    ·cases h
   ·cases h
  ·exact h
theorem y0a (k:10000000<n)(f:WfX x){bf:Int}(h:J2 n a x bf=some 0):0<=x.fType/\∀ l∈x.fLimits,0<=l.fSpan/\l.fSpan<=1099511627776:=by
 have b:Df n bf x a true≠some 0:=by
  unfold Df;rw [Am];intro h;cases h
 have g:=f.ll;unfold J2 at h;simp only [B2,Ak,Wq,A0] at h;rcases cnd_inv h with ⟨_,h⟩|⟨_,h⟩
 ·exact absurd h b
 rcases cnd_inv h with ⟨_,h⟩|⟨_,h⟩
 ·exact absurd h b
 rcases cnd_inv h with ⟨_,h⟩|⟨_,h⟩
 ·exact absurd h b
 rcases cnd_inv h with ⟨_,h⟩|⟨_,h⟩
 ·exact absurd h b
 cases q:(decide (0<=x.fType) && decide (x.fType<16)) with
 |false=>rw [q] at h;exact absurd h b
 |true =>
  rw [q] at h;simp only [aN,decide_eq_true_eq] at q;refine ⟨q.1,?_⟩;unfold Df at h;rw [aR,Ar] at h;rcases cnd_inv h with ⟨_,h⟩|⟨_,h⟩
  ·cases h
  obtain ⟨c,_,h⟩:=Sh h;rcases cnd_inv h with ⟨d,h⟩|⟨_,h⟩
  ·injection h with h;subst h;simp at d
  rcases cnd_inv h with ⟨_,h⟩|⟨_,h⟩
  ·cases h
  have h:=zfi _ _ h;obtain ⟨_,_,h⟩:=Sh h;obtain ⟨c,_,h⟩:=Sh h;rcases cnd_inv h with ⟨d,h⟩|⟨_,h⟩
  ·injection h with h;subst h;simp at d
  rw [zhy n (fun l=>decide (l.fSpan<0) || decide (1099511627776<l.fSpan)) x.fLimits (by omega) (by omega) (fun l _=>by
   unfold Iy;simp only [B2,Ak,Iu,A3];by_cases q:l.fSpan<0<;>simp [q]),A0] at h
  rcases cnd_inv h with ⟨_,h⟩|⟨d,_⟩
  ·cases h
  intro l j;have:=aM.1 d l j;simp only [Bool.or_eq_true,decide_eq_true_eq,not_or] at this;omega
theorem zd3 (g:a.fEdges.length<=1100000):∀ (m k:Nat) (bf:Int),H8 n a (some 0) m (bf,(k:Int))=some 0->∀ x∈a.fEdges.drop k,∃ bf,J2 n a x bf=some 0
 |0,k,bf,h=>by unfold H8 at h;cases h
 |m+1,k,bf,h=>by
  unfold H8 at h;simp only [aA] at h;rcases cnd_inv h with ⟨q,h⟩|⟨q,_⟩
  ·have f:k<a.fEdges.length:=by have:=of_decide_eq_true q;omega
   rw [Af f,Ag k (by omega)] at h;obtain ⟨c,j,h⟩:=Sh h;rcases cnd_inv h with ⟨b,h⟩|⟨b,h⟩
   ·injection h with h;subst h;simp at b
   ·intro x d;rw [aD f] at d;rcases aS.1 d with e|d
    ·rw [e];refine ⟨bf,?_⟩;rw [j];simp at b;rw [b]
    ·exact zd3 g m (k+1) _ h x d
  ·have:¬(k:Int)<(a.fEdges.length:Int):=of_decide_eq_false q;rw [aG (by omega)];simp
theorem zd4 {K:Option Int}:∀ (m:Nat) (k:Int),H9 n a K m k=some 0->K=some 0
 |0,k,h=>by unfold H9 at h;cases h
 |m+1,k,h=>by
  unfold H9 at h;rcases cnd_inv h with ⟨_,h⟩|⟨_,h⟩
  ·unfold idx at h;split at h
   ·split at h
    ·obtain ⟨c,_,h⟩:=Sh h;rcases cnd_inv h with ⟨q,h⟩|⟨_,h⟩
     ·injection h with h;subst h;simp at q
     ·exact zd4 m _ h
    ·cases h
   ·cases h
  ·exact h
theorem zxw (o:10000000<n)(m:WfA a)(h:Cs n a=some 0):(0<=a.fScopes/\a.fScopes<=64)/\∀ x∈a.fEdges,0<=x.fType/\∀ l∈x.fLimits,0<=l.fSpan/\l.fSpan<=1099511627776:=by
 have b:Dx n a true≠some 0:=by
  unfold Dx;rw [Am];intro h;cases h
 have d:Dw n a true≠some 0:=by
  unfold Dw;rw [Am];intro h;cases h
 unfold Cs at h;simp only [B2,Ak] at h;rcases cnd_inv h with ⟨_,h⟩|⟨_,h⟩
 ·exact absurd h b
 rcases cnd_inv h with ⟨_,h⟩|⟨_,h⟩
 ·exact absurd h b
 rcases cnd_inv h with ⟨_,h⟩|⟨j,h⟩
 ·exact absurd h b
 cases q:decide (64<a.fScopes) with
 |true=>rw [q] at h;exact absurd h b
 |false =>
  rw [q] at h;have u:=of_decide_eq_false q;have j:=of_decide_eq_false j;refine ⟨by omega,fun x k=>?_⟩;unfold Dx at h;rw [Ar] at h;simp only [B2,Ak] at h;have f:Dw n a false=some 0:=by
   rcases cnd_inv h with ⟨_,h⟩|⟨_,h⟩
   ·exact absurd h d
   rcases cnd_inv h with ⟨_,h⟩|⟨_,h⟩
   ·exact absurd h d
   cases g:decide ((2048:Int)<((List.map A9 a.fEdges).length:Int)) with
   |true=>rw [g] at h;exact absurd h d
   |false=>rw [g] at h;exact h
  unfold Dw at f;rw [Ar] at f;have t:=zd4 _ _ f;have s:=zd3 m.le n 0 0 (by simpa using t);obtain ⟨bf,p⟩:=s x (by simpa using k);exact y0a o (m.ed x k) p
theorem scR {T:List Cd}(d:WfA a)(h:AOk a)(f:10000000<n)(g:Cs n a=some 0):ScR ⟨T,a⟩:=by
 obtain ⟨k,j⟩:=zxw f d g;exact ⟨⟨⟨h.st,fun x b=>⟨(h.ed x b).frm.1,(h.ed x b).frm.2,(h.ed x b).tgt.1,(h.ed x b).tgt.2⟩,d.le⟩,k,fun x b=>⟨(d.ed x b).lo,(d.ed x b).lcl,(d.ed x b).li,(d.ed x b).ll⟩,fun x b=>(j x b).2⟩,d⟩
structure YesP (n:Nat) (sc:Scn) (M:Mp) (w:List Int):Prop where
 ne:w≠[]
 len:w.length<=300
 tt:∃ t,has M t/\Pth (ptE n sc t) t 0 w
def SnM (M:List (ByteArray×Bool))(l:List ByteArray):Prop:=∀ k,(mlk M k).getD false=true ↔ k∈l
theorem SnM.put {M:List (ByteArray×Bool)}{l:List ByteArray}(h:SnM M l)(k:ByteArray):SnM (mput M k true) (l++[k]):=fun x=>by
 rw [zji];by_cases e:x=k
 ·simp [e]
 ·rw [if_neg e,h];simp [e]
theorem y15 {α:Type}[DecidableEq α]:∀ {l m:List α},l.Nodup->(∀ x∈l,x∈m)->l.length<=m.length
 |[],m,_,_=>by simp
 |x::r,m,h1,g=>by
  have d:=g x (by simp);have f:=bD.1 h1;have h:=y15 (m:=m.erase x) f.2 (fun y b=>(mem_erase_of_ne (fun e=>f.1 (by rw [<-e];exact b))).2 (g y (aJ _ b)));rw [length_erase_of_mem d] at h;have:0<m.length:=length_pos_of_mem d;simp only [bJ];omega
theorem y42 {c:α->α->Int}(h:TO c){l:List α}(d:Str c l):l.Nodup:=by
 refine Pairwise.imp (fun {x y} b e=>?_) d;subst e;have:=(h.zero x x).2 rfl;omega
theorem y0t {held:List Ev}:∀ (p r:List Ev) (cs:List Cf) (b:List Ma),(wiP 150 a held (p++r) cs b).2.2=true->(wiP 150 a held p cs b).2.2=true
 |[],r,cs,b,h=>rfl
 |f::p,r,cs,b,h=>by
  rw [bI] at h;unfold wiP at h ⊢;split at h
  ·cases h
  ·rename_i q;rw [if_neg q];exact y0t p r _ _ h
noncomputable def xsI (a:Aut)(l:List Ev)(i:Nat):List Cf:=(wiP 150 a l (l.take i) [cf0] []).1
noncomputable def msI (a:Aut)(l:List Ev)(i:Nat):List Ma:=(wiP 150 a l (l.take i) [cf0] []).2.1
theorem y1r (h:GS a l)(i:Nat):wiP 150 a l (l.take i) [cf0] []=(xsI a l i,msI a l i,true):=by
 have h1:=h.sm;rw [<-aO i l] at h1;have b:=y0t (l.take i) (l.drop i) [cf0] [] (by rw [aO] at h1 ⊢;exact h1);unfold xsI msI;rw [<-b]
theorem ziy (a:Aut)(l:List Ev):xsI a l 0=[cf0]/\msI a l 0=[]:=by unfold xsI msI;rw [bM];exact ⟨rfl,rfl⟩
theorem Ww (h:GS a l)(hi:i<l.length):xsI a l (i+1)=cfN a l (xsI a l i) l[i]/\msI a l (i+1)=puts B4 (msI a l i) (maN a l (xsI a l i) l[i])/\(xsI a l (i+1)).length<=150/\(msI a l (i+1)).length<=150:=by
 have e:l.take (i+1)=l.take i++[l[i]]:=by rw [take_append_getElem]
 have h1:=y1r h (i+1);rw [e] at h1;obtain ⟨x,m,o,f,j,d⟩:=zrn (l.take i) [cf0] [] (by rw [h1]);rw [y1r h i] at o;injection o with w1 g
 injection g with g _
 rw [<-w1] at f j d;rw [<-g] at f d;rw [h1] at f;injection f with k b
 injection b with b _
 rw [<-k] at j;rw [<-b] at d;exact ⟨k,b,j,d⟩
theorem zvc (h:GS a l)(hi:i<=l.length):(xsI a l i).length<=150:=by
 cases i with
 |zero=>rw [(ziy a l).1];simp
 |succ i=>exact (Ww h (by omega)).2.2.1
theorem zym (h:GS a l):∀ {i:Nat},i<=l.length->∀ c∈xsI a l i,Gd57 a l i c
 |0,hi=>fun c b=>by
  rw [(ziy a l).1] at b;rw [aF.1 b];exact gd0 h
 |i+1,hi=>fun c b=>by
  rw [(Ww h (by omega)).1] at b;exact Gd57.next h (by omega) (zym h (by omega)) c b
theorem y0n {held:List Ev}{cs xs:List Cf}(h:∀ c∈cs,c∈xs)(e:Ev):∀ d∈cfN a held cs e,d∈cfN a held xs e:=fun d b=>by
 unfold cfN at b ⊢;rw [Fd Ea,mem_flatMap] at b ⊢;obtain ⟨c,h1,f⟩:=b;exact ⟨c,h c h1,f⟩
structure Sb (a:Aut) (l:List Ev) (i:Nat) (cs:List Cf):Prop where
 sub:∀ c∈cs,c∈xsI a l i
 str:Str Bl cs
theorem Sb.len (h:GS a l)(hi:i<=l.length){cs:List Cf}(b:Sb a l i cs):cs.length<=150 :=
 bE (y15 (y42 Ea b.str) b.sub) (zvc h hi)
theorem Sb.gd (h:GS a l)(hi:i<=l.length){cs:List Cf}(d:Sb a l i cs):∀ c∈cs,Gd57 a l i c:=fun c b=>zym h hi c (d.sub c b)
theorem Sb.next (h:GS a l)(hi:i<l.length){cs:List Cf}(b:Sb a l i cs):Sb a l (i+1) (cfN a l cs l[i]) :=
 ⟨by rw [(Ww h hi).1];exact y0n b.sub _,S4 Ea _⟩
theorem GS.of25 (f:WfA a)(h1:Q1 N0 a l=some true)(z:H5 N0 a l=some 0):GS a l:=by
 obtain ⟨b,o,B⟩:=zw3 a f l;rw [h1] at o;obtain rfl:=aH o;obtain ⟨w,v,q,h,hs⟩:=B rfl;have m:q=0:=by
  rw [z] at h;exact (aH h).symm
 obtain ⟨p,k,t⟩:=zqd a f l (by omega);rw [h] at k;obtain rfl:=aH k;rcases t with ⟨A,_⟩|⟨_,y,u,d,g,_⟩
 ·exact absurd m A
 obtain ⟨r,j,s,C⟩:=zjb N0 (by decide) a f;rw [d] at j;obtain rfl:=aH j;exact ⟨f,w,y,d,s,g,v,hs m⟩
noncomputable def tS (f:List Cf->List Cf)(a:Aut)(l:List Ev):List Ev->List Cf->List (List Cf) |[],_=>[] |e::r,cs=>f (cfN a l cs e)::tS f a l r (f (cfN a l cs e))
structure Ch (a:Aut) (l:List Ev) (f:List Cf->List Cf):Prop where
 sub:∀ i cs,Sb a l i cs->Sb a l i (f cs)
 cov:∀ cs,∀ c∈cs,covd (Ht a) (f cs) c=true
def TmS (l:List Sta):Prop:=∀ s∈l,0<=s.fTime/\s.fTime<=1099511627776
structure Cvd (a:Aut) (c d:Cf):Prop where
 cov:cov (Ht a) c d=true
 st:0<=c.fState/\c.fState<a.fStates.length
 lc:c.fBindings.length<=900000
 ld:d.fBindings.length<=900000
 tc:TmS c.fStarts
 td:TmS d.fStarts
theorem Cvd.out {d:Cf}(h:Cvd a c d):c.fState=d.fState/\cvL c.fStarts d.fStarts=true/\rdB ((Ht a).getD c.fState.toNat []) c.fBindings=rdB ((Ht a).getD c.fState.toNat []) d.fBindings:=by
 have h1:=h.cov;unfold Go.Proofs.YthbogefcfhmpgaaGreat.cov rdC at h1;grind
structure FewR (S:List (List Cf)):Prop where
 ln:S.length<=14
 st:∀ s∈S,s.length<=60/\∀ c∈s,c.fBindings.length<=12/\c.fStarts.length<=12
theorem zuu:Ip 2000000000=some true:=by kernel_rfl
def UsC (a:Aut)(U:Int->Prop):Prop:=∀ x∈a.fEdges,x.fTo<0\/U x.fTo->U x.fFrom
theorem zex (n:Nat)(a:Aut)(h:EdR a)(U:Int->Prop)(j:UsC a U)(e:Int×List Bool)(K:List Bool->Option (List Bool)):∀ (m k:Nat) (w:List Bool),k<=a.fEdges.length->a.fEdges.length<m+k->w.length=a.fStates.length->(∀ t,hs w t->U t)->∃ w',Gm n a e K m ((k:Int),w)=K w'/\w'.length=a.fStates.length/\∀ t,hs w' t->U t
 |0,k,w,h1,y,o,g=>by omega
 |m+1,k,w,h1,y,o,g=>by
  have v:=h.le;unfold Gm;simp only [aA,Ak];rw [A3];by_cases s:k<a.fEdges.length
  ·have hm:=aB s;obtain ⟨p,B,A,z⟩:=h.ed _ hm;rw [if_pos (by omega),Af s,A3];have f:a.fEdges[k].fFrom.toNat<w.length:=by omega
   have key:U a.fEdges[k].fFrom->∃ w',Gm n a e K m ((IntKind.wrap .i64 ((k:Int)+1)),w.set a.fEdges[k].fFrom.toNat true)=K w'/\w'.length=a.fStates.length/\∀ t,hs w' t->U t:=fun u=>by
    rw [Ag k (by omega)];refine zex n a h U j e K m (k+1) _ (by omega) (by omega) (by rw [aK];exact o) (fun t d=>?_);rcases (zx4 f t).1 d with q|q
    ·rw [q,Int.toNat_of_nonneg p];exact u
    ·exact g t q
   by_cases d:a.fEdges[k].fTo<0
   ·rw [if_pos d,Fi p f,Dz f];exact key (j _ hm (aL d))
   ·have b:a.fEdges[k].fTo.toNat<w.length:=by omega
    rw [if_neg d,Fi (by omega) b,Cr b];cases q:w[a.fEdges[k].fTo.toNat] with
    |true =>
     rw [Am,Fi p f,Dz f];exact key (j _ hm (aT (g _ ⟨by omega,by rw [aE b,q]⟩)))
    |false =>
     rw [Ar,Ag k (by omega)];exact zex n a h U j e K m (k+1) w (by omega) (by omega) o g
  ·rw [if_neg (by omega)];exact ⟨w,rfl,o,g⟩
theorem zn1 (n:Nat)(q:10000000<n)(a:Aut)(h:EdR a)(U:Int->Prop)(j:UsC a U):∀ (m k:Nat) (w:List Bool),k<=a.fStates.length->a.fStates.length<m+k->w.length=a.fStates.length->(∀ t,hs w t->U t)->∃ w',Ju n a (fun b=>some b) m ((k:Int),w)=some w'/\w'.length=a.fStates.length/\∀ t,hs w' t->U t
 |0,k,w,h1,u,g,f=>by omega
 |m+1,k,w,h1,u,g,f=>by
  have s:=h.le;have p:=h.st;unfold Ju;simp only [aA];rw [A3];by_cases z:k<a.fStates.length
  ·rw [if_pos (by omega)];obtain ⟨w1,o,y,v⟩:=zex n a h U j ((k:Int),w) (fun d=>(Ju n a (fun b=>some b) m) ((IntKind.wrap .i64 ((k:Int)+1)),d)) n 0 w (aZ _) (by omega) g f;simp only [aC] at o;rw [o,Ag k (by omega)];exact zn1 n q a h U j m (k+1) w1 (by omega) (by omega) y v
  ·rw [if_neg (by omega)];exact ⟨w,rfl,g,f⟩
structure Rc (a:Aut) (l:List Ev) (R:Int->Prop) (i:Nat) (c:Cf):Prop where
 r:R c.fState
 st:c.fBindings=[]\/∃ x∈a.fEdges,R x.fFrom/\x.fTo=c.fState
 bd:∀ b∈c.fBindings,∃ j,∃ hj:j<l.length,j<i/\Bb l[j]=b.fRef
theorem y1q (h:GS a l){R:Int->Prop}(R0:R 0)(s:∀ x∈a.fEdges,R x.fFrom->0<=x.fTo->R x.fTo):∀ {i:Nat},i<=l.length->∀ c∈xsI a l i,Rc a l R i c
 |0,hi=>fun c q=>by
  rw [(ziy a l).1] at q;rw [aF.1 q];exact ⟨R0,aL rfl,by simp⟩
 |i+1,hi=>fun d p=>by
  rw [(Ww h (by omega)).1] at p;obtain ⟨c,h1,f,v⟩:=X0 p;have k:=y1q h R0 s (by omega:i<=l.length) c h1;have up:∀ b∈c.fBindings,∃ j,∃ o:j<l.length,j<i+1/\Bb l[j]=b.fRef:=fun b g=>by
   obtain ⟨j,o,w,t⟩:=k.bd b g;exact ⟨j,o,by omega,t⟩
  unfold outP at f;rcases bA.1 f with f|f
  ·split at f
   ·rw [aF.1 f];exact ⟨k.r,k.st,up⟩
   ·simp at f
  ·obtain ⟨x,u,m⟩:=mem_filterMap.1 f;have hm:=Mw u;have e:=Wu m;subst e;refine ⟨s x hm.1 (hm.2▸k.r) v,aT ⟨x,hm.1,hm.2▸k.r,rfl⟩,fun b g=>?_⟩;rcases bA.1 g with g|g
   ·exact up b g
   ·rw [aF.1 g];exact ⟨i,by omega,by omega,rfl⟩
theorem y2b (h:GS a l):∃ q,Wo N0 a l=some (xsI a l l.length,q,0):=by
 have t:=h.len;obtain ⟨s,hm,b⟩:=h.begin l.length;rw [take_length] at hm b;have k:setL B4 ([]:List Ma)=[]:=rfl;have g:=h.sm;obtain ⟨cs,all,y,m,w,C,B,A,z⟩:=zs2 (r:=⟨a,s⟩) h.cx hm h.so.st h.edges (by omega) (fun p o=>bndM 62 (M3 N0 o) fun f=>some (p,f,0)) N0 0 [cf0] [] (aZ _) (by unfold N0;omega) (by simp) (by simp) (fun c u=>by rw [aF.1 u];exact cb0 h.ok) (by simp) (by rw [aP,k];exact g);rw [aP,k] at m;have j:wiP 150 a l l [cf0] []=(cs,setL B4 all,true):=m;have d:=y1r h l.length;rw [take_length,j] at d;injection d with d _
 rw [<-d];refine ⟨setL B4 all,?_⟩;unfold Wo bndP;rw [b];simp only [Aw,A3];have v:Wb N0=some cf0:=rfl;rw [if_pos trivial,v,A0];refine y.trans ?_;rw [zw1 N0 (by decide) all w (by omega),Ct]
theorem zf5 {d f:Type}[DecidableEq d]:∀ (l:List (d×f)) (k:d) (v:f),(l.map (·.1)).Nodup->((mput l k v).map (·.1)).Nodup/\∀ y,y∈(mput l k v).map (·.1) ↔ y=k\/y∈l.map (·.1)
 |[],k,v,h=>by unfold mput;simp
 |(a,b)::r,k,v,h=>by
  unfold mput;rw [bK] at h;obtain ⟨h1,m⟩:=bD.1 h;by_cases e:k=a
  ·rw [if_pos e];subst e;simp only [bK,aS];exact ⟨h,fun y=>by grind⟩
  ·rw [if_neg e];obtain ⟨j,g⟩:=zf5 r k v m;simp only [bK,aS];refine ⟨bD.2 ⟨fun q=>?_,j⟩,fun y=>by rw [g];grind⟩;rcases (g _).1 q with q|q
   ·exact e q.symm
   ·exact h1 q
structure HK (S:Rf->Prop) (M:List (Rf×Bool)):Prop where
 nd:(M.map (·.1)).Nodup
 s:∀ y∈M.map (·.1),S y
theorem HK.put {S:Rf->Prop}{M:List (Rf×Bool)}(h:HK S M){r:Rf}(d:S r):HK S (mput M r true) :=
 ⟨(zf5 M r true h.nd).1,fun y b=>by
   rcases ((zf5 M r true h.nd).2 y).1 b with q|q
   ·rw [q];exact d
   ·exact h.s y q⟩
structure Hc (S:Rf->Prop) (now:Int) (bd:List Bool) (ag:List Int) (c:Cf):Prop where
 lb:c.fBindings.length<=1000000
 ok:c.fBindings=[]\/∃ s:Nat,c.fState=(s:Int)/\bd[s]? = some true/\∃ g,ag[s]? = some g/\∃ b r,c.fBindings=b::r/\0<=b.fRef.fTime/\b.fRef.fTime<=1099511627776/\(now-b.fRef.fTime<=g->∀ x∈c.fBindings,S x.fRef)
def PsP (p:C5)(out:List Mp)(x:Ed)(s:Int):Prop:=¬s∈x.fCloses/\(x.fFrom=0->s∈x.fOpens)/\(has p.finner x.fFrom->¬s∈x.fOpens/\∃ M,out[x.fFrom.toNat]? = some M/\has M s)
theorem zag (n:Nat)(F:10000000<n)(a:Aut)(t:a.fScopes<=64)(p:C5)(z:MK p.finner)(x:Ed)(o:x.fOpens.length<=1100000)(s:x.fCloses.length<=1100000)(out:List Mp)(A:∀ M∈out,MK M)(g:0<=x.fFrom/\x.fFrom.toNat<out.length):∀ (m k:Nat) (M:Mp),k<=64->64<m+k->MK M->∃ R,F6 n out x a p (fun y=>some y) m ((k:Int),M)=some R/\MK R/\∀ v,has R v->has M v\/PsP p out x v
 |0,k,M,h1,L,u=>by omega
 |m+1,k,M,h1,L,u=>by
  unfold F6;rw [A3];by_cases h:(k:Int)<a.fScopes
  ·rw [if_pos h,Fa n (k:Int) x.fOpens (by omega) (by omega),A0,Fa n (k:Int) x.fCloses (by omega) (by omega),A0];have key:∀ (b:Bool),(b=true->PsP p out x (k:Int))->∃ R,Fu n out x a p ((k:Int),M) (F6 n out x a p (fun y=>some y) m) b=some R/\MK R/\∀ v,has R v->has M v\/PsP p out x v:=fun b j=>by
    unfold Fu;simp only [Ak,Sk,Ag k (by omega)];cases b with
    |true =>
     rw [Am];obtain ⟨R,I,H,G⟩:=zag n F a t p z x o s out A g m (k+1) _ (by omega) (by omega) (u.put (k:Int));refine ⟨R,I,H,fun v w=>?_⟩;rcases G v w with q|q
     ·rcases (u.has_put _ _).1 q with q|q
      ·rw [q];exact aT (j rfl)
      ·exact aL q
     ·exact aT q
    |false=>rw [Ar];exact zag n F a t p z x o s out A g m (k+1) _ (by omega) (by omega) u
   have d:∀ (c b:Bool),(c=false->¬(k:Int)∈x.fOpens)->(b=true->¬(k:Int)∈x.fCloses/\(x.fFrom=0->(k:Int)∈x.fOpens))->∃ R,Gn n out x a p ((k:Int),M) (F6 n out x a p (fun y=>some y) m) c b=some R/\MK R/\∀ v,has R v->has M v\/PsP p out x v:=fun c b K j=>by
    unfold Gn;simp only [Ak,B2,Nd];cases E:(mlk p.finner x.fFrom).getD false with
    |false =>
     rw [Ar];refine key _ (fun e=>⟨(j e).1,(j e).2,fun hi=>?_⟩);rw [(z.get _).2 hi] at E;cases E
    |true =>
     rw [Am];cases b with
     |false=>rw [Ar];exact key _ (fun e=>by cases e)
     |true =>
      rw [Am];cases c with
      |true=>simp only [aR,Ar];exact key _ (fun e=>by cases e)
      |false =>
       simp only [aY,Am];rw [zqo g.1 g.2];refine key _ (fun e=>⟨(j rfl).1,(j rfl).2,fun hi=>⟨K rfl,_,aE g.2,?_⟩⟩);exact ((A _ (aB g.2)).get _).1 e
   have f:∀ (l:List Int),(l.any fun y=>decide ((k:Int)=y))=false->¬(k:Int)∈l:=fun l e hm=>by
    have:=aM.1 e _ hm;simp at this
   have C:∀ (l:List Int),(l.any fun y=>decide ((k:Int)=y))=true->(k:Int)∈l:=fun l e=>by
    obtain ⟨y,J,e⟩:=any_eq_true.1 e;rw [decide_eq_true_eq] at e;rw [e];exact J
   simp only [Ak,B2];rw [A3];split
   ·rename_i D;cases B:(x.fCloses.any fun y=>decide ((k:Int)=y)) with
    |true=>simp only [aR,Ar];exact d _ _ (f _) (fun e=>by cases e)
    |false=>simp only [aY,Am];exact d _ _ (f _) (fun e=>⟨f _ B,fun _=>C _ e⟩)
   ·rename_i D;exact d _ _ (f _) (fun e=>⟨f _ (by simpa using e),fun N=>absurd N D⟩)
  ·rw [if_neg h];exact ⟨M,rfl,u,fun v w=>aL w⟩
theorem zz3 (n:Nat)(q:10000000<n)(a:Aut)(f:a.fScopes<=64)(p:C5)(m:MK p.finner)(x:Ed)(b:x.fOpens.length<=1100000)(d:x.fCloses.length<=1100000)(out:List Mp)(o:∀ M∈out,MK M)(s:0<=x.fFrom/\x.fFrom.toNat<out.length):∃ R,Y5 n p a x out=some R/\MK R/\∀ v,has R v->PsP p out x v:=by
 obtain ⟨R,j,h,g⟩:=zag n q a f p m x b d out o s n 0 [] (by omega) (by omega) MK.nil;exact ⟨R,j,h,fun v k=>(g v k).resolve_left (Je v)⟩
def Fx (p:C5)(out:List Mp)(x:Ed):Prop:=0<=x.fTo->has p.freachable x.fFrom->has p.finner x.fTo->∀ M s,out[x.fTo.toNat]? = some M->has M s->PsP p out x s
theorem y2z {A B:Mp}(h:MK A)(hs:∀ v,has A v->has B v)(j:B.length<=A.length):∀ v,has B v->has A v:=fun v f=>by
 refine Classical.byContradiction fun g=>?_
 have b:v ∉ A.map (fun p:Int×Bool=>p.1):=g;have:=zjf (l:=v::A.map (fun p:Int×Bool=>p.1)) (l':=B.map (fun p:Int×Bool=>p.1)) (bD.2 ⟨b,h.nd⟩) (fun y d=>by
  rcases aS.1 d with e|e
  ·rw [e];exact f
  ·exact hs y e)
 simp only [bJ,aA] at this;omega
theorem z8l (n:Nat)(E:10000000<n)(a:Aut)(h:AutR a)(p:C5)(u:PtOk a p)(K:Bool->List Mp->Option (List Mp)):∀ (m k:Nat) (b:Bool) (out:List Mp),k<=a.fEdges.length->a.fEdges.length<m+k->Eg a.fStates.length out->tot out<10000000->∃ f d,F5 n a p K m (b,(k:Int),out)=K f d/\Eg a.fStates.length d/\tot d<=tot out/\(f=true->b=true\/tot d < tot out)/\(b=true->f=true)/\(f=true\/(d=out/\∀ x∈a.fEdges.drop k,Fx p out x))
 |0,k,b,out,h1,Z,o,N=>by omega
 |m+1,k,b,out,h1,Z,o,N=>by
  have G:=h.le;unfold F5;simp only [aA];by_cases z:k<a.fEdges.length
  ·rw [A3,if_pos (by omega),Af z,aD z];have J:=h.ed _ (aB z);have w:=h.lo _ (aB z);have L:=o.len;have next:Fx p out a.fEdges[k]->∃ f d,F5 n a p K m (b,((k+1:Nat):Int),out)=K f d/\Eg a.fStates.length d/\tot d<=tot out/\(f=true->b=true\/tot d < tot out)/\(b=true->f=true)/\(f=true\/(d=out/\∀ x∈a.fEdges[k]::a.fEdges.drop (k+1),Fx p out x)):=fun j=>by
    obtain ⟨f,d,I,H,Q,P,B,O⟩:=z8l n E a h p u K m (k+1) b out (by omega) (by omega) o N;refine ⟨f,d,I,H,Q,P,B,O.imp id (fun q=>⟨q.1,fun x J=>?_⟩)⟩;rcases aS.1 J with e|e
    ·rw [e];exact j
    ·exact q.2 x e
   have skip:Fx p out a.fEdges[k]->∃ f d,Fq n a p (b,(k:Int),out) (F5 n a p K m) a.fEdges[k] true=K f d/\Eg a.fStates.length d/\tot d<=tot out/\(f=true->b=true\/tot d < tot out)/\(b=true->f=true)/\(f=true\/(d=out/\∀ x∈a.fEdges[k]::a.fEdges.drop (k+1),Fx p out x)):=fun j=>by
    unfold Fq;simp only [Ag k (by omega:k<=1000000000000)];rw [Am];exact next j
   simp only [B2,Ak,Nd];rw [A3];by_cases q:a.fEdges[k].fTo<0
   ·rw [if_pos q];exact skip (fun h0=>by omega)
   rw [if_neg q];have g:0<=a.fEdges[k].fTo/\a.fEdges[k].fTo.toNat<out.length:=by omega
   cases t:(mlk p.freachable a.fEdges[k].fFrom).getD false with
   |false=>simp only [aY,Am];exact skip (fun _ D=>by rw [(u.r.get _).2 D] at t;cases t)
   |true =>
    simp only [aR,Ar];cases y:(mlk p.finner a.fEdges[k].fTo).getD false with
    |false=>simp only [aY];exact skip (fun _ _ D=>by rw [(u.i.get _).2 D] at y;cases y)
    |true =>
     simp only [aR];unfold Fq;simp only [Ag k (by omega:k<=1000000000000),aA,Ak];rw [Ar,Fi g.1 g.2,Cr g.2];obtain ⟨R,W,V,U⟩:=zz3 n E a h.sc.2 p u.i _ w.1 w.2.1 out o.mks (by omega);have F:=o.mks _ (aB g.2);have G:out[a.fEdges[k].fTo.toNat].length<=tot out:=by
      have:=zpj g.2 [];simp only [bL] at this;omega
     obtain ⟨C,c1,T,S⟩:=zzl n _ R F V (by omega);rw [W,A0,c1,A0,Fi g.1 g.2,Cr g.2,A3];by_cases ql:C.length<out[a.fEdges[k].fTo.toNat].length
     ·rw [if_pos (by omega),Fi g.1 g.2,Dz g.2];have Y:=zpj g.2 C;obtain ⟨f,d,I,H,Q,P,B,O⟩:=z8l n E a h p u K m (k+1) true (out.set a.fEdges[k].fTo.toNat C) (by omega) (by omega) (o.set _ T) (by omega);exact ⟨f,d,I,H,by omega,fun _=>aT (by omega),fun _=>B rfl,aL (B rfl)⟩
     ·rw [if_neg (by omega)];refine next (fun _ _ _ M s A hs=>?_);rw [aE g.2] at A;injection A with A
      subst A;exact U s ((S s).1 (y2z T (fun v X=>((S v).1 X).1) (by omega) s hs)).2
  ·rw [A3,if_neg (by omega),aG (by omega)];exact ⟨b,out,rfl,o,Nat.le_refl _,aL,id,aT ⟨rfl,by simp⟩⟩
theorem zcu (n:Nat)(k:10000000<n)(a:Aut)(h:AutR a)(p:C5)(j:PtOk a p):∀ (m:Nat) (b:Bool) (out:List Mp),(tot out+1<m\/(b=false/\tot out<m))->Eg a.fStates.length out->tot out<10000000->(b=false->∀ x∈a.fEdges,Fx p out x)->∃ d,I2 n a p (fun y=>some y) m (b,out)=some d/\Eg a.fStates.length d/\tot d<=tot out/\∀ x∈a.fEdges,Fx p d x
 |0,b,out,h1,f,s,o=>by omega
 |m+1,b,out,h1,f,s,o=>by
  unfold I2;simp only;cases b with
  |false=>rw [Ar];exact ⟨out,rfl,f,Nat.le_refl _,o rfl⟩
  |true =>
   rw [Am];have B:=h.le;obtain ⟨g,d,u,G,J,F,I,E⟩:=z8l n k a h p j (fun y z=>I2 n a p (fun y=>some y) m (y,z)) n 0 false out (by omega) (by omega) f s;simp only [aC] at u;rw [u];have D:tot out+1<m+1:=by
    rcases h1 with h|h
    ·exact h
    ·exact absurd h.1 (by simp)
   have C:tot d + 1<m\/(g=false/\tot d < m):=by
    cases g with
    |false=>exact aT ⟨rfl,by omega⟩
    |true=>have:=(F rfl).resolve_left (by simp);exact aL (by omega)
   obtain ⟨q,A,w,H,v⟩:=zcu n k a h p j m g d C G (by omega) (fun eb=>by
    rcases E with e|⟨e,t⟩
    ·rw [eb] at e;cases e
    ·rw [e];rw [aP] at t;exact t)
   exact ⟨q,A,w,by omega,v⟩
theorem zvv (n:Nat)(P:20000000<n)(a:Aut)(h:AutR a)(p:C5)(g:PtOk a p):∃ out,Tt n p a=some out/\Eg a.fStates.length out/\(∀ M∈out,M.length<n)/\∀ x∈a.fEdges,Fx p out x:=by
 have H:=h.st;unfold Tt;simp only [aA,y5r,Ak];rw [y55 (by omega)];have E:=y3r 0 a.fScopes.toNat [] (by simp [Srt]) (by simp);have B:=y0q 0 a.fScopes.toNat [] (by simp [Srt]);have I:=h.sc;have d:∀ (rem:Mp) (w:List Mp),Eg a.fStates.length w->(∀ M∈w,M.length<=64)->Eg a.fStates.length (rem.foldl (fun w q=>w.set q.1.toNat (allS a)) w)/\∀ M∈rem.foldl (fun w q=>w.set q.1.toNat (allS a)) w,M.length<=64:=fun rem=>by
  induction rem with
  |nil=>exact fun w h C=>⟨h,C⟩
  |cons q r k =>
   intro w h C;rw [aQ];refine k _ (h.set _ ⟨E.1.nodup,E.2⟩) (fun M b=>(bC b).elim (C M) (fun e=>?_));rw [e];unfold allS;simp only [bL] at B;omega
 have A:ArOk a.fStates.length (mkA Mp a.fStates.length):=⟨by simp [mkA],fun i j e=>by
  unfold mkA at e;simp only [getElem?_replicate] at e;split at e<;>simp at e⟩
 have o:aval (mkA Mp a.fStates.length)=bH a.fStates.length []:=by
  unfold aval mkA;simp
 obtain ⟨F,J⟩:=d p.finner (bH a.fStates.length []) ⟨by simp,fun M b=>by rw [aW b];exact MK.nil⟩ (fun M b=>by rw [aW b];simp);have G:∀ w:List Mp,(∀ M∈w,M.length<=64)->tot w<=64*w.length:=fun w=>by
  unfold tot
  induction w with
  |nil=>simp
  |cons q r k =>
   intro D;have:=k (fun M b=>D M (aJ _ b));have:=D q (by simp);simp only [bK,sum_cons,bJ];omega
 have s:=G _ J;rw [F.len] at s;obtain ⟨out,O,L,Q,K⟩:=zcu n (by omega) a h p g n true _ (aL (by omega)) F (by omega) (fun e=>by cases e);have v:∀ M∈out,M.length<=tot out:=fun M b=>by
  obtain ⟨i,hi,rfl⟩:=mem_iff_getElem.1 b;have:=zpj hi [];simp only [bL] at this;omega
 refine ⟨out,?_,L,fun M b=>by have:=v M b;omega,K⟩;have z:p.finner.length<n:=by
  have f:(p.finner.map (·.1)).length<=((range a.fStates.length).map (fun (i:Nat)=>(i:Int))).length:=by
   refine zjf g.i.nd (fun t u=>?_);have:=g.ir t u;exact mem_map.2 ⟨t.toNat,mem_range.2 this.2,by omega⟩
  simp only [aA,length_range] at f;omega
 refine zd1 n (by omega) a h p _ (fun w=>I2 n a p (fun y=>some y) n (true,w)) (fun N m=>by simp only [y59,Ak]) out n p.finner (mkA Mp a.fStates.length) z g.i g.ir A ?_;rw [o];exact O
theorem y23 (n:Nat)(t:10000000<n)(x:Ed)(p:x.fOpens.length<=1100000)(u:x.fLimits.length<=1100000)(s:Int)(f:(limP n x s).2=true):∃ l∈x.fLimits,l.fScope=s/\¬s∈x.fOpens/\(limP n x s).1=l.fSpan:=by
 have d:=zew n s x.fLimits (by omega) n 0 (by omega) (by omega);simp only [aC,aP,Fb] at d;have key:∃ r,Hi n x s=some r/\(r.2=true->∃ l∈x.fLimits,l.fScope=s/\¬s∈x.fOpens/\r.1=l.fSpan):=by
  unfold Hi Tp;rw [d,A0];simp only [B2,Ak,J0,A3,Fa n s x.fOpens (by omega) (by omega),A0];by_cases q:fidx (fun y=>decide (y.fScope=s)) x.fLimits<0
  ·rw [if_pos q,Am];exact ⟨_,rfl,fun h=>by cases h⟩
  ·rw [if_neg q];cases e:(x.fOpens.any fun y=>decide (s=y)) with
   |true=>rw [Am];exact ⟨_,rfl,fun h=>by cases h⟩
   |false =>
    rw [Ar];unfold fidx at q ⊢;cases g:x.fLimits.findIdx? (fun y=>decide (y.fScope=s)) with
    |none=>rw [g] at q;exact absurd (by simp) q
    |some j =>
     obtain ⟨b,o⟩:=aU.1 g;simp only;rw [Af b];refine ⟨_,rfl,fun _=>⟨_,aB b,by simpa using o.1,fun hm=>?_,rfl⟩⟩;have:=aM.1 e s hm;simp at this
 obtain ⟨r,m,k⟩:=key;have:limP n x s=r:=by unfold limP;rw [m];rfl
 rw [this] at f ⊢;exact k f
theorem zwx (n:Nat)(s:Int):∀ (l:List Ed) (z:Int×Bool),(l.foldl (lmS n s) z).2=true->z.2=true/\z.1<=(l.foldl (lmS n s) z).1/\∀ x∈l,(limP n x s).2=true/\(limP n x s).1<=(l.foldl (lmS n s) z).1
 |[],z,h=>⟨h,Int.le_refl _,by simp⟩
 |x::r,z,h=>by
  rw [aQ] at h ⊢;obtain ⟨b,g,d⟩:=zwx n s r (lmS n s z x) h;unfold lmS at b;simp only [aN] at b;have j:(lmS n s z x).1=max z.1 (limP n x s).1:=rfl;refine ⟨b.1,by omega,fun y f=>?_⟩;rcases aS.1 f with e|e
  ·rw [e];exact ⟨b.2,by omega⟩
  ·exact d y e
theorem agS_wit (n:Nat)(l:List Ed):∀ (M:Mp) (z:Int×Bool),(M.foldl (agS n l) z).2=true->(M.foldl (agS n l) z=z/\z.2=true)\/∃ s,has M s/\(Fl n l s).2=true/\(M.foldl (agS n l) z).1=(Fl n l s).1
 |[],z,h=>aL ⟨rfl,h⟩
 |p::r,z,h=>by
  rw [aQ] at h ⊢;rcases agS_wit n l r (agS n l z p) h with ⟨q,b⟩|⟨s,f,b,d⟩
  ·rw [q];by_cases c:(Fl n l p.1).2=true/\(z.2=false\/(Fl n l p.1).1<z.1)
   ·refine aT ⟨p.1,(N3 _ _ _).2 (aL rfl),c.1,?_⟩;unfold agS;rw [if_pos c]
   ·have e:agS n l z p=z:=by unfold agS;rw [if_neg c]
    rw [e] at b ⊢;exact aL ⟨rfl,b⟩
  ·exact aT ⟨s,(N3 _ _ _).2 (aT f),b,d⟩
theorem y66 (n:Nat)(b:10000000<n)(l:List Ed)(g:l.length<=1100000)(h:∀ x∈l,LimR x)(M:Mp)(j:M.length<n):∃ r,Zk n l M=some r/\(0<=r.1/\r.1<=mxT)/\(r.2=true->∃ s,has M s/\∀ x∈l,(limP n x s).2=true/\(limP n x s).1<=r.1):=by
 refine ⟨_,zsp n b l g h n M (0,false) j,?_⟩;obtain ⟨d,p⟩:=y5s n b l h M (0,false) ⟨by decide,by decide⟩;refine ⟨d,fun q=>?_⟩;rcases agS_wit n l M (0,false) q with ⟨_,e⟩|⟨s,o,m,k⟩
 ·cases e
 ·rw [k];exact ⟨s,o,fun x f=>(zwx n s l (0,true) m).2.2 x f⟩
structure AgQ (n:Nat) (a:Aut) (p:C5) (out:List Mp) (k:Nat) (ag:List Int) (bd:List Bool):Prop where
 l1:ag.length=a.fStates.length
 l2:bd.length=a.fStates.length
 rng:∀ v∈ag,0<=v/\v<=mxT
 bdd:∀ i:Nat,i<k->has p.finner (i:Int)->bd[i]? = some true->∃ M s g,out[i]? = some M/\has M s/\ag[i]? = some g/\∀ x∈a.fEdges,x.fFrom=(i:Int)->(limP n x s).2=true/\(limP n x s).1<=g
theorem zen (n:Nat)(u:10000000<n)(a:Aut)(h:AutR a)(A:WfA a)(E:Cs n a=some 0)(p:C5)(C:PtOk a p)(out:List Mp)(D:Eg a.fStates.length out)(f:∀ M∈out,M.length<n):∀ (m k:Nat) (ag:List Int) (bd:List Bool),k<=a.fStates.length->a.fStates.length<m+k->AgQ n a p out k ag bd->∃ q o,M7 n a p out (fun y z=>some (y,z,0)) m ((k:Int),ag,bd)=some (q,o,0)/\AgQ n a p out a.fStates.length q o
 |0,k,ag,bd,h1,S,d=>by omega
 |m+1,k,ag,bd,h1,S,d=>by
  unfold M7;simp only [aA,Ak];rw [A3];have O:=h.st;have H:=d.l1;have G:=d.l2;by_cases J:k<a.fStates.length
  ·rw [if_pos (by omega),Cp (by omega),Dz (by omega),Nd,Ag k (by omega)];cases I:(mlk p.finner (k:Int)).getD false with
   |false =>
    rw [Ar];refine zen n u a h A E p C out D f m (k+1) ag _ (by omega) (by omega) ⟨H,by rw [aK];exact G,d.rng,fun i hi t b=>?_⟩;by_cases e:i=k
    ·subst e;rw [(C.i.get _).2 t] at I;cases I
    ·rw [aV (by omega)] at b;exact d.bdd i (by omega) t b
   |true =>
    obtain ⟨R,L,K,F⟩:=y2r n u a A E k J;have g:k<out.length:=by rw [D.len];exact J
    have Q:∀ x∈R,LimR x:=fun x w=>by
     have j:=((F x).1 w).1;have:=h.lo x j;exact ⟨this.1,this.2.2.2,h.sp x j⟩
    obtain ⟨r,V,U,T⟩:=y66 n u R K Q out[k] (f _ (aB g));rw [Am,L,A0,Af g,V,A0,Cp (by omega),Dz (by omega),Cp (by rw [aK];omega),Dz (by rw [aK];omega)];refine zen n u a h A E p C out D f m (k+1) _ _ (by omega) (by omega) ⟨by rw [aK];exact H,by rw [aK,aK];exact G,fun v N=>(bC N).elim (d.rng v) (fun e=>e▸U),fun i hi t b=>?_⟩;by_cases e:i=k
    ·subst e;rw [bG (by rw [aK];omega)] at b;injection b with b
     obtain ⟨s,B,hs⟩:=T b;exact ⟨_,s,r.1,aE g,B,by rw [bG (by omega)],fun x w P=>hs x ((F x).2 ⟨w,P⟩)⟩
    ·rw [aV (by omega),aV (by omega)] at b;rw [aV (by omega)];exact d.bdd i (by omega) t b
  ·rw [if_neg (by omega)];have e:k=a.fStates.length:=by omega
   subst e;exact ⟨ag,bd,rfl,d⟩
theorem y4e (n:Nat)(s:30000000<n)(a:Aut)(h:AutR a)(m:WfA a)(d:Cs n a=some 0):∃ ag bd p out,Mj n a=some (ag,bd,0)/\PtOk a p/\(∀ x∈a.fEdges,Fx p out x)/\out.length=a.fStates.length/\AgQ n a p out a.fStates.length ag bd:=by
 have q:=h.st;obtain ⟨p,g,b⟩:=y29 n s a h.toEdR d;obtain ⟨out,k,o2,o3,j⟩:=zvv n (by omega) a h p b;obtain ⟨ag,bd,f,t⟩:=zen n (by omega) a h m d p b out o2 o3 n 0 (bH a.fStates.length 0) (bH a.fStates.length false) (by omega) (by omega) ⟨by simp,by simp,fun v o=>by rw [aW o];exact ⟨by decide,by decide⟩,fun i hi=>by omega⟩;simp only [aC] at f;refine ⟨ag,bd,p,out,?_,b,j,o2.len,t⟩;unfold Mj;rw [d,A0];simp only [Aw,A3,if_true,aA];rw [g,A0,k,A0,X2 (by omega) (by decide),X2 (by omega) (by decide),f]
theorem zs5 (l:List Ev):Io N0 l=some (D7 l):=by
 by_cases h:l.length<=1000000
 ·exact zw9 N0 l (by unfold N0;omega) h
 ·unfold Io D7;simp only [aA,A3];rw [if_pos (by omega),if_pos (by omega)]
end Go.Proofs.YthbogefcfhmpgaaGreat
