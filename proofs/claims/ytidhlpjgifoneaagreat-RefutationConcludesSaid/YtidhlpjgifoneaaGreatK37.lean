/- Layer 25, plainly. -/
import Derived.Test.YtidhlpjgifoneaaGreatK36
import Derived.Test.YtidhlpjgifoneaaGreatK35
set_option linter.unusedVariables false
set_option linter.unusedSimpArgs false
set_option maxRecDepth 100000
namespace Go.Proofs.YtidhlpjgifoneaaGreat
open Go.RowKit List
theorem y03 (a b:Rf):N1 N0 a b=some (rCmp a b):=by
 have:N1 (1999999996+4) a b=some (rCmp a b):=by
  unfold N1;simp only [A3,Ns,zz9];rfl
 exact this
structure CIv (a:Aut) (rest:List Ev) (c:Cf):Prop where
 asc:c.fBindings.Pairwise (fun x y=>rCmp x.fRef y.fRef<0)
 bef:∀ b∈c.fBindings,∀ e∈rest,rCmp b.fRef (Bh e)<0
 scp:∀ s∈c.fStarts,(0<=s.fScope/\s.fScope<a.fScopes)/\0<=s.fTime/\s.fTime<=1099511627776
variable {a:Aut}{e:Ev}{r:List Ev}{c:Cf}
theorem CIv.tail (h:CIv a (e::r) c):CIv a r c:=⟨h.asc,fun b g x d=>h.bef b g x (mem_cons_of_mem _ d),h.scp⟩
theorem y51 (z:AOk a){held:List Ev}(n:Str Cl (e::r))(m:Ct e=true)(h:CIv a (e::r) c){x:Ed}(u:x∈a.fEdges){d:Cf}(w:coP a held c x e=some d):CIv a r d:=by
 rw [ziv w];obtain ⟨p,B⟩:=pairwise_cons.1 n;refine ⟨?_,fun b g y j=>?_,fun s v=>?_⟩
 ·show Pairwise _ (bdN c x e);unfold bdN;rw [pairwise_append];exact ⟨h.asc,pairwise_singleton _ _,fun b g y j=>by rw [mem_singleton.1 j];exact h.bef b g e (by simp)⟩
 ·rcases mem_append.1 g with g|g
  ·exact h.bef b g y (mem_cons_of_mem _ j)
  ·rw [mem_singleton.1 g];exact p y j
 ·have o:=(mem_filter.1 v).1;rcases opL_mem e.fTime x.fOpens o with ⟨t,q⟩|k
  ·refine ⟨(z.ed x u).opn _ t,?_⟩;rw [q];unfold Ct at m;simp only [Bool.and_eq_true,decide_eq_true_eq] at m;exact ⟨m.1,m.2.1⟩
  ·exact h.scp s k
theorem y1v (m:AOk a){held:List Ev}(g:Str Cl (e::r))(k:Ct e=true)(h:CIv a (e::r) c){d:Cf}(b:d∈outP a held c e):CIv a r d:=by
 unfold outP at b;rcases mem_append.1 b with b|b
 ·split at b
  ·rw [mem_singleton.1 b];exact h.tail
  ·simp at b
 ·obtain ⟨x,j,b⟩:=mem_filterMap.1 b;exact y51 m g k h (Yo j).1 b
theorem y55 (k:AOk a){held:List Ev}(b:Str Cl (e::r))(g:Ct e=true){cs:List Cf}(h:∀ c∈cs,CIv a (e::r) c):∀ d∈cfN a held cs e,CIv a r d:=fun d j=>by
 obtain ⟨c,h1,m,_⟩:=zwt j;exact y1v k b g (h c h1) m
theorem zpv {held:List Ev}:∀ (p:List Ev) (cs:List Cf) (b:List Ma),(wiP 150 a held (p++[e]) cs b).2.2=true->∃ x m,wiP 150 a held p cs b=(x,m,true)/\wiP 150 a held (p++[e]) cs b=(cfN a held x e,puts B1 m (maN a held x e),true)/\(cfN a held x e).length<=150/\(puts B1 m (maN a held x e)).length<=150
 |[],cs,b,h=>by
  refine ⟨cs,b,rfl,?_⟩;rw [nil_append] at h ⊢;unfold wiP at h ⊢;split at h
  ·cases h
  ·rename_i q;rw [if_neg q];exact ⟨rfl,by omega,by omega⟩
 |f::p,cs,b,h=>by
  rw [cons_append] at h ⊢;unfold wiP at h ⊢;split at h
  ·cases h
  ·rename_i q;rw [if_neg q,if_neg q];exact zpv p _ _ h
theorem zg7 (r:B9)(c:Cf)(j:c.fStarts.length<=1000000)(d:∀ s∈c.fStarts,(0<=s.fScope/\s.fScope<r.fa.fScopes)/\0<=s.fTime/\s.fTime<=1099511627776)(g:SS c.fStarts):∀ (m k:Nat),k<=c.fStarts.length->c.fStarts.length<m+k->Fv N0 c r (some 0) m (k:Int)=some 0
 |0,k,h1,n=>by omega
 |m+1,k,h1,n=>by
  unfold Fv;simp only [length_map,A5,B3,Am,Gt,Ky,Av,Az];by_cases h:k<c.fStarts.length
  ·obtain ⟨⟨t,q⟩,p,o⟩:=d _ (getElem_mem h);have b:=zg7 r c j d g m (k+1) (by omega) (by omega);rw [if_pos (by omega),Ac h,if_neg (by omega),if_neg (by omega),if_neg (by omega),if_neg (by omega),Ag k (by omega)];by_cases u:0<k
   ·have:=pairwise_iff_getElem.1 g (k-1) k (by omega) h (by omega);rw [if_pos (by omega),So k (by omega) (by omega),Ac (by omega:k-1<c.fStarts.length),if_neg (by omega)];exact b
   ·rw [if_neg (by omega)];exact b
  ·rw [if_neg (by omega)]
theorem zg8 (r:B9)(held:List Ev)(hm:HM held r.fheld)(c:Cf)(o:c.fBindings.length<=1000000)(d:BdOk held r.fa.fVars c.fBindings)(g:c.fBindings.Pairwise (fun x y=>rCmp x.fRef y.fRef<0))(K:Option Int)(j:K=some 0):∀ (m k:Nat),k<=c.fBindings.length->c.fBindings.length<m+k->Ik N0 c r K m (k:Int)=some 0
 |0,k,h1,p=>by omega
 |m+1,k,h1,p=>by
  unfold Ik;simp only [length_map,A5,B3,Am,Kx,Kw,Av,Az,Al];by_cases h:k<c.fBindings.length
  ·obtain ⟨⟨u,t⟩,n⟩:=d _ (getElem_mem h);have b:=zg8 r held hm c o d g K j m (k+1) (by omega) (by omega);have s:(⟨c.fBindings[k].fRef.fTime,c.fBindings[k].fRef.fSource,c.fBindings[k].fRef.fSeq⟩:Rf)=c.fBindings[k].fRef:=rfl;rw [if_pos (by omega),Ac h,s,zvm,hm,n];simp only [Av];rw [if_neg (by omega),if_neg (by omega),Ag k (by omega)];by_cases v:0<k
   ·have:=pairwise_iff_getElem.1 g (k-1) k (by omega) h (by omega);have q:(⟨c.fBindings[k-1].fRef.fTime,c.fBindings[k-1].fRef.fSource,c.fBindings[k-1].fRef.fSeq⟩:Rf)=c.fBindings[k-1].fRef:=rfl;rw [if_pos (by omega),So k (by omega) (by omega),Ac (by omega:k-1<c.fBindings.length),q,y03,A3,if_neg (by omega)];exact b
   ·rw [if_neg (by omega)];exact b
  ·rw [if_neg (by omega)];exact j
theorem zyd {r:B9}{held:List Ev}(hm:HM held r.fheld){k:Nat}(g:k<=1000)(d:CB held r.fa k c){b:List Ev}(hi:CIv r.fa b c):H4 N0 r c=some 0:=by
 have h1:=d.lb;have j:=d.ls;have h:=d.st;unfold H4;simp only [B3,Am,Lg,A5,Av,length_map];rw [if_neg (by omega),if_neg (by omega),if_neg (by omega)];have:=zg7 r c (by omega) hi.scp d.ss N0 0 (Nat.zero_le _) (by unfold N0;omega);exact zg8 r held hm c (by omega) d.bd hi.asc _ this N0 0 (Nat.zero_le _) (by unfold N0;omega)
theorem y3x (e:Ev):Vo N0 e=some (Ct e):=by
 unfold Vo Ct
 simp only [B3,Am,F4,A5]
 repeat' split
 all_goals (simp_all<;>omega)
theorem y44 (k:Ct e=true)(l:List Cf)(q:l.length<=1000000)(n:∀ c∈l,c.fBindings.length<=1000000)(h:∀ c∈l,CIv a (e::r) c):N2 N0 l e=some 0:=by
 unfold N2;rw [y3x,k,A3,Al,Av];rw [zsm N0 e (fun _=>false) l (by omega) (by unfold N0;omega) (fun c g=>by
  have m:=n c g;unfold Mw Yi;rw [zsl N0 e (fun b=>decide (0<=rCmp b.fRef (Bh e))) c.fBindings (by omega) (by unfold N0;omega) (fun b _=>by
   unfold Mv;have j:J5 N0 e=some (Bh e):=rfl;rw [j,A3];have p:(⟨b.fRef.fTime,b.fRef.fSource,b.fRef.fSeq⟩:Rf)=b.fRef:=rfl;have o:(⟨(Bh e).fTime,(Bh e).fSource,(Bh e).fSeq⟩:Rf)=Bh e:=rfl;simp only [p,o,y03,A3]),A3,A3]
  congr 1;rw [any_eq_false];intro b d;have:=(h c g).bef b d e (by simp);simp only [decide_eq_true_eq];omega),A3]
 have:(l.any fun _=>false)=false:=by rw [any_eq_false];simp
 rw [this,Az]
theorem zqx {r:B9}(e:Ev)(l:List Cf)(d:l.length<=1000000)(h:∀ c∈l,H4 N0 r c=some 0)(K:Int->Int->List F6->List B4->List (Bg×A8)->Option (List Cf×List Ma×Int)):∀ (m k:Nat),k<=l.length->l.length<m+k->Ri N0 e l r K m (k:Int)=K r.fa.fVars r.fa.fScopes r.fa.fStates r.fa.fEdges r.fheld
 |0,k,h1,g=>by omega
 |m+1,k,h1,g=>by
  unfold Ri;simp only [length_map,A5,Al];by_cases b:k<l.length
  ·rw [if_pos (by omega),Ac b,h _ (getElem_mem b),A3,if_pos rfl,Ag k (by omega)];exact zqx e l d h K m (k+1) (by omega) (by omega)
  ·rw [if_neg (by omega)]
theorem zwq:∀ (l p r:List Ev),chk p (l++r)=0->chk p l=0
 |[],p,r,_=>by unfold chk;rfl
 |e::l,p,r,h=>by
  rw [cons_append] at h;unfold chk at h ⊢;split at h
  ·cases h
  split at h
  ·cases h
  split at h
  ·cases h
  rename_i h1 d b;rw [if_neg h1,if_neg d,if_neg b];exact zwq l (e::p) r h
variable {l:List Ev}
theorem zrz (h:Du (l++r)=0):Du l=0:=by
 unfold Du at h ⊢;split at h
 ·cases h
 ·rename_i q;rw [length_append] at q;rw [if_neg (by omega)];exact zwq l [] r h
structure GS (a:Aut) (l:List Ev):Prop where
 wf:WfA a
 few:FewA a
 ok:AOk a
 chk:Il N0 a=some 0
 acheck:Md N0 a=some 0
 str:Du l=0
 len:l.length<=12
 sm:(wiP 150 a l l [cf0] []).2.2=true
theorem GS.so (h:GS a l):y33 l:=zcc h.str
theorem GS.cx (h:GS a l):CxA a l:=⟨h.wf,h.ok,fun x b=>by have:=h.few.2 x b;omega,by have:=h.len;omega⟩
theorem GS.pre (h:GS a l)(i:Nat):Du (l.take i)=0:=by
 have:=h.str;rw [<-take_append_drop i l] at this;exact zrz this
theorem GS.cxp (h:GS a l)(i:Nat):CxA a (l.take i):=⟨h.wf,h.ok,fun x b=>by have:=h.few.2 x b;omega,by have:=h.len;rw [length_take];omega⟩
theorem GS.edges (h:GS a l):a.fEdges.length<=100:=by have:=h.few.1;omega
theorem GS.begin (h:GS a l)(i:Nat):∃ mp,HM (l.take i) mp/\G6 N0 a (l.take i)=some (some ⟨a,mp⟩,0):=by
 have j:=h.len;obtain ⟨q,b,d⟩:=zog a h.wf (l.take i) (by rw [length_take];omega);have g:q=0:=by
  unfold Eg at b;rw [h.chk,A3,Al,A5,if_pos rfl,zuq N0 _ (by grind) (by rw [length_take];omega),A3,h.pre i] at b;exact (Option.some.inj b).symm
 simp_all
theorem zv3 (h:GS a l)(i:Nat):Ez N0 a (l.take i)=some 0:=by
 have b:=h.len;unfold Ez;rw [h.acheck,A3,Al,A5,if_pos rfl,y1s N0 _ (by grind) (by decide) (by rw [length_take];omega),A3,h.pre i]
structure Gd57 (a:Aut) (l:List Ev) (i:Nat) (c:Cf):Prop where
 cb:CB l a (i+20) c
 ci:CIv a (l.drop i) c
theorem CB.mono {k m:Nat}(h:CB l a k c)(b:k<=m):CB l a m c:=⟨h.st,h.bd,h.ss,Nat.le_trans h.lb b,Nat.le_trans h.ls (Nat.mul_le_mul_left _ b)⟩
theorem gd0 (h:GS a l):Gd57 a l 0 cf0:=⟨(cb0 h.ok).mono (Nat.zero_le _),by simp,fun b g=>by simp at g,fun s d=>by simp at d⟩
variable {i:Nat}
theorem Gd57.held (h:GS a l)(d:Gd57 a l i c):CB (l.take i) a (i+20) c:=by
 refine ⟨d.cb.st,fun b g=>⟨(d.cb.bd b g).1,?_⟩,d.cb.ss,d.cb.lb,d.cb.ls⟩;have h1:=(d.cb.bd b g).2;rw [<-take_append_drop i l,y27] at h1;cases j:lkH (l.take i) b.fRef with
 |some e=>rfl
 |none =>
  rw [j] at h1;obtain ⟨e,k⟩:=Option.isSome_iff_exists.1 h1;obtain ⟨n,m⟩:=zoo (by simpa using k);have:=d.ci.bef b g e m;rw [n] at this;have:=Ni.lt_ne this;exact absurd rfl this
theorem Gd57.ok (h:GS a l)(hi:i<=12)(b:Gd57 a l i c):cfOk c=true:=b.cb.sz.ok (by omega)
theorem Gd57.cs (h:GS a l)(hi:i<=12)(b:Gd57 a l i c):CS (Bo a) c:=by
 have h1:=b.cb.st;have g:=b.cb.lb;have d:=b.cb.ls;exact ⟨by rw [(S2 a).1.len];exact h1,by omega,by omega⟩
theorem y2u (hi:i<l.length):l.drop i=l[i]::l.drop (i+1):=drop_eq_getElem_cons hi
theorem zxs (h:Str Cl l)(i:Nat):Str Cl (l.drop i):=Pairwise.sublist (drop_sublist i l) h
theorem Gd57.next (h:GS a l)(hi:i<l.length){cs:List Cf}(k:∀ c∈cs,Gd57 a l i c):∀ d∈cfN a l cs l[i],Gd57 a l (i+1) d:=fun d j=>by
 have so:=h.so;have e:=y2u hi;refine ⟨(zwv h.cx so.st (fun c b=>(k c b).cb) (getElem_mem hi) d j).mono (by omega),?_⟩;have g:=zxs so.st i;rw [e] at g;refine y55 h.ok g (so.pl _ (getElem_mem hi)) (fun c b=>?_) d j;have:=(k c b).ci;rw [e] at this;exact this
theorem Gd57.lk (h:GS a l){cs:List Cf}(j:∀ c∈cs,Gd57 a l i c):∀ c∈cs,∀ b∈c.fBindings,lkH (l.take i) b.fRef=lkH l b.fRef :=
 y6c h.so.st (fun y g=>mem_of_mem_take g) (fun c d=>(j c d).held h)
theorem y64 (h:GS a l)(hi:i<l.length):∀ y∈l.take i,Bh y=Bh l[i]->y=l[i]:=fun y g d=>by
 have b:=h.so.st;obtain ⟨j,k,rfl⟩:=mem_iff_getElem.1 g;rw [length_take] at k;rw [getElem_take] at d;have:=pairwise_iff_getElem.1 b j i (by omega) hi (by omega);exact absurd d (Ni.lt_ne this)
variable {mp:List (Rf×Ev)}
theorem y4h (h:GS a l)(hi:i<l.length)(hm:HM (l.take i) mp){cs:List Cf}(g:∀ c∈cs,Gd57 a l i c)(k:cs.length<=5000):Im N0 ⟨a,mp⟩ cs l[i]=some (cfN a l cs l[i],maN a l cs l[i]):=by
 have j:=h.len;have b:=zld (r:=⟨a,mp⟩) (h.cxp i) hm (by omega:i+20<=1000) (y64 h hi) h.edges cs (fun c d=>(g c d).held h) k;rw [zwu (Gd57.lk h g),zvr (Gd57.lk h g)] at b;exact b
theorem zsi (h:GS a l)(hi:i<=l.length)(hm:HM (l.take i) mp)(b:Gd57 a l i c):H4 N0 ⟨a,mp⟩ c=some 0 :=
 zyd (r:=⟨a,mp⟩) hm (by have:=h.len;omega:i+20<=1000) (b.held h) b.ci
theorem zyk (h:GS a l)(hi:i<l.length){cs:List Cf}(d:∀ c∈cs,Gd57 a l i c)(j:cs.length<=5000):N2 N0 cs l[i]=some 0:=by
 have g:=h.len;refine y44 (a:=a) (r:=l.drop (i+1)) (h.so.pl _ (getElem_mem hi)) cs (by omega) (fun c b=>by have:=(d c b).cb.lb;omega) (fun c b=>?_);have:=(d c b).ci;simp_all
theorem y1u (h:GS a l)(hi:i<l.length){cs:List Cf}(d:∀ c∈cs,Gd57 a l i c)(k:cs.length<=4000)(h1:(cfN a l cs l[i]).length<=4096)(m:(maN a l cs l[i]).length<=4096):Mt N0 a (l.take i) cs l[i]=some (cfN a l cs l[i],maN a l cs l[i],0):=by
 obtain ⟨mp,hm,j⟩:=h.begin i;unfold Mt bndP;rw [j];simp only [Al,A5,length_map];rw [if_pos trivial,if_neg (by omega)];have g:=fun K=>zqx (r:=⟨a,mp⟩) l[i] cs (by omega) (fun c b=>zsi h (by omega) hm (d c b)) K N0 0 (Nat.zero_le _) (by unfold N0;omega)
 refine (g _).trans ?_;rw [zyk h hi d (by omega),A3,if_pos rfl];have eta:(⟨⟨a.fVars,a.fScopes,a.fStates,a.fEdges⟩,mp⟩:B9)=⟨a,mp⟩:=rfl;simp only [eta,y4h h hi hm d (by omega),A3,B3,Am,Mf,Av,A5];grind
variable {α:Type}
theorem zlc {n:Nat}{l:List α}(h:l.length<=1000000000):Ce n l=some l:=by unfold Ce;exact if_pos h
theorem zqi {l:List Cf}(d:l.length<=1000000)(b:∀ c∈l,c.fBindings.length<=1000000/\c.fStarts.length<=1000000)(K:List Cf->Option (List Cf)):∀ (m k:Nat) (out:List Cf),k<=l.length->l.length<m+k->out.length<=k->R1 N0 l K m ((k:Int),out)=K (out++l.drop k)
 |0,k,out,h1,g,_=>by omega
 |m+1,k,out,h1,g,o=>by
  unfold R1;simp only [length_map,A5];by_cases h:k<l.length
  ·have n:=b _ (getElem_mem h);have j:(⟨l[k].fState,l[k].fBindings,l[k].fStarts⟩:Cf)=l[k]:=rfl;rw [if_pos (by omega),Ac h,zlc (by omega),A3,zlc (by omega),A3,drop_eq_getElem_cons h,Ag k (by omega),j,Bq (by simp;omega) (by omega),zqi d b K m (k+1) _ (by omega) (by omega) (by simp;omega)];simp
  grind
theorem y5w {l:List Cf}(d:l.length<=1000000)(b:∀ c∈l,c.fBindings.length<=1000000/\c.fStarts.length<=1000000):Rj N0 l=some l:=by
 unfold Rj;have:=zqi d b (fun y=>some y) N0 0 [] (Nat.zero_le _) (by unfold N0;omega) (by simp);simpa using this
def covd (R:List Mp)(l:List Cf)(d:Cf):Bool:=l.any (fun c=>cov R c d)
structure Zy (a:Aut) (l:List Ev) (S:List (List Cf)):Prop where
 ln:S.length=l.length+1
 few:∀ i (hi:i<S.length),S[i].length<=4096
 gd:∀ i (hi:i<S.length),∀ c∈S[i],Gd57 a l i c
variable {S:List (List Cf)}
theorem Zy.cs (h:GS a l)(b:Zy a l S)(hi:i<S.length):∀ c∈S[i],CS (Bo a) c:=fun c d=>(b.gd i hi c d).cs h (by have:=b.ln;have:=h.len;omega)
theorem zvh {α:Type}[DecidableEq α]:∀ {l m:List α},l.Nodup->(∀ x∈l,x∈m)->l.length<=m.length
 |[],m,_,_=>by simp
 |x::r,m,h1,h=>by
  have d:=h x (by simp);have g:=nodup_cons.1 h1;have j:=zvh (m:=m.erase x) g.2 (fun y b=>(mem_erase_of_ne (fun e=>g.1 (by rw [<-e];exact b))).2 (h y (mem_cons_of_mem _ b)));rw [length_erase_of_mem d] at j;have:0<m.length:=length_pos_of_mem d;simp only [length_cons];omega
theorem Zn {b:Type}(l:List α)(k:List α->Option b):bldS l k=k l:=rfl
theorem y0s {b:Type}(l:List α)(k:List α->Option b):bld l k=k l:=rfl
theorem zzu {c:α->α->Int}(h:TO c){l:List α}(d:Str c l):l.Nodup:=by
 refine Pairwise.imp (fun {x y} b e=>?_) d;subst e;have:=(h.zero x x).2 rfl;omega
theorem zzs {held:List Ev}:∀ (p r:List Ev) (cs:List Cf) (b:List Ma),(wiP 150 a held (p++r) cs b).2.2=true->(wiP 150 a held p cs b).2.2=true
 |[],r,cs,b,h=>rfl
 |f::p,r,cs,b,h=>by
  rw [cons_append] at h;unfold wiP at h ⊢;split at h
  ·cases h
  ·rename_i q;rw [if_neg q];exact zzs p r _ _ h
noncomputable def xsI (a:Aut)(l:List Ev)(i:Nat):List Cf:=(wiP 150 a l (l.take i) [cf0] []).1
noncomputable def msI (a:Aut)(l:List Ev)(i:Nat):List Ma:=(wiP 150 a l (l.take i) [cf0] []).2.1
theorem Zz (h:GS a l)(i:Nat):wiP 150 a l (l.take i) [cf0] []=(xsI a l i,msI a l i,true):=by
 have h1:=h.sm;rw [<-take_append_drop i l] at h1;have b:=zzs (l.take i) (l.drop i) [cf0] [] (by rw [take_append_drop] at h1 ⊢;exact h1);unfold xsI msI;rw [<-b]
theorem Z8 (a:Aut)(l:List Ev):xsI a l 0=[cf0]/\msI a l 0=[]:=by unfold xsI msI;rw [take_zero];exact ⟨rfl,rfl⟩
theorem S4 (h:GS a l)(hi:i<l.length):xsI a l (i+1)=cfN a l (xsI a l i) l[i]/\msI a l (i+1)=puts B1 (msI a l i) (maN a l (xsI a l i) l[i])/\(xsI a l (i+1)).length<=150/\(msI a l (i+1)).length<=150:=by
 have e:l.take (i+1)=l.take i++[l[i]]:=by rw [take_append_getElem]
 have h1:=Zz h (i+1);rw [e] at h1;obtain ⟨x,m,o,g,k,d⟩:=zpv (l.take i) [cf0] [] (by rw [h1]);rw [Zz h i] at o;injection o with w1 j
 injection j with j _
 rw [<-w1] at g k d;rw [<-j] at g d;rw [h1] at g;injection g with n b
 injection b with b _
 rw [<-n] at k;rw [<-b] at d;exact ⟨n,b,k,d⟩
theorem y3a (h:GS a l)(hi:i<=l.length):(xsI a l i).length<=150:=by
 cases i with
 |zero=>rw [(Z8 a l).1];simp
 |succ i=>exact (S4 h (by omega)).2.2.1
theorem y3b (h:GS a l):∀ {i:Nat},i<=l.length->∀ c∈xsI a l i,Gd57 a l i c
 |0,hi=>fun c b=>by
  rw [(Z8 a l).1] at b;rw [mem_singleton.1 b];exact gd0 h
 |i+1,hi=>fun c b=>by
  rw [(S4 h (by omega)).1] at b;exact Gd57.next h (by omega) (y3b h (by omega)) c b
theorem zzn {held:List Ev}{cs xs:List Cf}(h:∀ c∈cs,c∈xs)(e:Ev):∀ d∈cfN a held cs e,d∈cfN a held xs e:=fun d b=>by
 unfold cfN at b ⊢;rw [F9 Ds,mem_flatMap] at b ⊢;obtain ⟨c,h1,g⟩:=b;exact ⟨c,h c h1,g⟩
theorem zr6 {held:List Ev}{cs xs:List Cf}(h:∀ c∈cs,c∈xs)(e:Ev):∀ d∈maN a held cs e,d∈maN a held xs e:=fun d b=>by
 unfold maN at b ⊢;rw [F9 Cj,mem_flatMap] at b ⊢;obtain ⟨c,h1,g⟩:=b;exact ⟨c,h c h1,g⟩
structure Sb (a:Aut) (l:List Ev) (i:Nat) (cs:List Cf):Prop where
 sub:∀ c∈cs,c∈xsI a l i
 str:Str Bn cs
theorem Sb.len (h:GS a l)(hi:i<=l.length){cs:List Cf}(b:Sb a l i cs):cs.length<=150 :=
 Nat.le_trans (zvh (zzu Ds b.str) b.sub) (y3a h hi)
theorem Sb.gd (h:GS a l)(hi:i<=l.length){cs:List Cf}(d:Sb a l i cs):∀ c∈cs,Gd57 a l i c:=fun c b=>y3b h hi c (d.sub c b)
theorem Sb.next (h:GS a l)(hi:i<l.length){cs:List Cf}(b:Sb a l i cs):Sb a l (i+1) (cfN a l cs l[i]) :=
 ⟨by rw [(S4 h hi).1];exact zzn b.sub _,N8 Ds _⟩
theorem Sb.ma (h:GS a l)(hi:i<l.length){cs:List Cf}(g:Sb a l i cs):(∀ d∈maN a l cs l[i],d∈msI a l (i+1))/\(maN a l cs l[i]).length<=150:=by
 have h1:∀ d∈maN a l cs l[i],d∈msI a l (i+1):=fun d b=>by
  rw [(S4 h hi).2.1,J6 Cj];exact Or.inr (zr6 g.sub _ d b)
 exact ⟨h1,Nat.le_trans (zvh (zzu Cj (N8 Cj _)) h1) (S4 h hi).2.2.2⟩
theorem Sb.adv (h:GS a l)(hi:i<l.length){cs:List Cf}(b:Sb a l i cs):Mt N0 a (l.take i) cs l[i]=some (cfN a l cs l[i],maN a l cs l[i],0) :=
 y1u h hi (b.gd h (by omega)) (by have:=b.len h (by omega);omega) (by have:=(b.next h hi).len h (by omega);omega) (by have:=(b.ma h hi).2;omega)
theorem Sb.red {cs:List Cf}(b:Sb a l i cs)(R:List Mp):Sb a l i (redP R cs) :=
 ⟨fun c h=>b.sub c ((zq4 R cs).subset h),Pairwise.sublist (zq4 R cs) b.str⟩
noncomputable def bS (f:List Cf->List Cf)(a:Aut)(l:List Ev):List Ev->List Cf->List (List Cf)->List (List Cf)×Int
 |[],_,acc=>(acc,0)
 |e::r,cs,acc=>if maN a l cs e=[] then bS f a l r (f (cfN a l cs e)) (acc++[f (cfN a l cs e)]) else ([],22)
theorem zpn (f:List Cf->List Cf)(a:Aut)(l:List Ev)(e:Ev)(r:List Ev)(cs:List Cf)(acc:List (List Cf)):bS f a l (e::r) cs acc=if maN a l cs e=[] then bS f a l r (f (cfN a l cs e)) (acc++[f (cfN a l cs e)]) else ([],22):=rfl
theorem Sb.sizes (h:GS a l)(hi:i<=l.length){cs:List Cf}(d:Sb a l i cs):∀ c∈cs,c.fBindings.length<=1000000/\c.fStarts.length<=1000000:=fun c b=>by
 have:=(d.gd h hi c b).cs h (by have:=h.len;omega);exact ⟨this.lb,this.ls⟩
theorem zft (h:GS a l):∀ (m i:Nat) (cs:List Cf) (out:List (List Cf)),i<=l.length->l.length<m+i->(t:out.length=i+1)->out[i]=cs->Sb a l i cs->Ov N0 (Bo a) l a (fun y=>some (y,0)) m ((i:Int),out)=some (bS (redP (Bo a)) a l (l.drop i) cs out)
 |0,i,cs,out,h1,s,_,_,_=>by omega
 |m+1,i,cs,out,h1,s,q,p,n=>by
  have o:=h.len;unfold Ov;simp only [length_map,A5,Al];by_cases hi:i<l.length
  ·have d:∀ (K:List Ev->Option (List (List Cf)×Int)),sls l 0 (i:Int) K=K (l.take i):=fun K=>by
    have:=Fe (l:=l) (a:=0) (b:=i) (Nat.zero_le _) (by omega) K;simpa using this
   have j:=n.next h hi;have g:=j.red (Bo a);rw [if_pos (by omega),Ac hi,d,Co (by omega),Cz (by omega),p,n.adv h hi,A3,if_pos rfl,drop_eq_getElem_cons hi,zpn,Ag i (by omega)];by_cases hm:maN a l cs l[i]=[]
   ·rw [if_neg (by rw [hm];simp),if_pos hm];unfold Xc;rw [y5v (by have:=j.len h (by omega);omega) (fun c k=>(j.gd h (by omega) c k).cs h (by omega)),A3,y5w (by have:=g.len h (by omega);omega) (g.sizes h (by omega)),A3,A3];rw [Zn,Bq (by simp;omega) (by omega)];exact zft h m (i+1) (redP (Bo a) (cfN a l cs l[i])) _ (by omega) (by omega) (by simp;omega) (by rw [getElem_append_right (by omega)];simp [q]) g
   ·have:0<(maN a l cs l[i]).length:=length_pos_iff.2 hm;rw [if_pos (by show (0:Int)<((maN a l cs l[i]).length:Int);omega),if_neg hm]
  ·rw [if_neg (by omega),drop_eq_nil_of_le (by omega)];rfl
theorem sb0 (a:Aut)(l:List Ev):Sb a l 0 [cf0]:=⟨fun c b=>by rw [(Z8 a l).1];exact b,by simp [Str]⟩
theorem zuc (h:GS a l):Tt N0 a l (Bo a)=some (bS (redP (Bo a)) a l l [cf0] [[cf0]]):=by
 have:=zft h N0 0 [cf0] [[cf0]] (Nat.zero_le _) (by have:=h.len;unfold N0;omega) rfl rfl (sb0 a l);unfold Tt;have b:Hc N0=some cf0:=rfl;rw [b,A3,Zn,y0s];simpa using this
theorem zt0:Lr 2000000000=some true:=by kernel_rfl
theorem GS.of (g:WfA a)(h1:Lo N0 a l=some true)(z:E3 N0 a l=some 0):GS a l:=by
 obtain ⟨b,o,C⟩:=zo4 a g l;rw [h1] at o;obtain rfl:=Option.some.inj o;obtain ⟨x,w,q,j,v⟩:=C rfl;have n:q=0:=by
  have e:Eg N0 a l=E3 N0 a l:=by unfold Eg E3;rfl
  rw [e,z] at j;exact (Option.some.inj j).symm
 obtain ⟨p,m,t⟩:=zog a g l (by omega);rw [j] at m;obtain rfl:=Option.some.inj m;rcases t with ⟨B,_⟩|⟨_,y,u,d,h,_⟩
 ·exact absurd n B
 obtain ⟨r,k,s,D⟩:=zhj N0 (by decide) a g;rw [d] at k;obtain rfl:=Option.some.inj k;exact ⟨g,x,y,d,s,h,w,v n⟩
theorem zo8 (h:GS a l):Vj N0 a l=some (msI a l l.length,0)/\(∀ d∈msI a l l.length,maOk d=true):=by
 have u:=h.len;obtain ⟨mp,hm,b⟩:=h.begin l.length;rw [take_length] at hm b;have n:setL B1 ([]:List Ma)=[]:=rfl;have k:=h.sm;obtain ⟨cs,all,x,p,o,C,B,z,y⟩:=zqb (r:=⟨a,mp⟩) h.cx hm h.so.st h.edges (by omega) (fun s q=>bndM 62 (Mc N0 q) fun j=>some (s,j,0)) N0 0 [cf0] [] (Nat.zero_le _) (by unfold N0;omega) (by simp) (by simp) (fun c v=>by rw [mem_singleton.1 v];exact cb0 h.ok) (by simp) (by rw [drop_zero,n];exact k);rw [drop_zero,n] at p;have m:wiP 150 a l l [cf0] []=(cs,setL B1 all,true):=p;have g:=Zz h l.length;rw [take_length,m] at g;injection g with _ g
 injection g with g _
 have t:Wb N0 a l=some (cs,setL B1 all,0):=by
  unfold Wb bndP;rw [b];simp only [Al,A5];have w:Hc N0=some cf0:=rfl;rw [if_pos trivial,w,A3];refine x.trans ?_;rw [zub N0 (by decide) all o (by omega),Cb]
 unfold Vj;rw [t,A3,<-g];exact ⟨rfl,ztm o⟩
def NM (a:Aut)(l:List Ev)(i:Nat):Prop:=∀ j,i<=j->(b:j<l.length)->maN a l (xsI a l j) l[j]=[]
theorem zu6 {s m:List Ma}:puts B1 s m=[] ↔ s=[]/\m=[]:=by
 constructor
 ·intro h;have k:=fun z=>J6 Cj z m s
  rw [h] at k;exact ⟨eq_nil_iff_forall_not_mem.2 (fun z b=>by simp_all),eq_nil_iff_forall_not_mem.2 (fun z b=>by have:=(k z).2 (Or.inr b);simp at this)⟩
 ·rintro ⟨rfl,rfl⟩;rfl
theorem y4l (h:GS a l):msI a l l.length=[] ↔ NM a l 0:=by
 have key:∀ i,i<=l.length->(msI a l i=[] ↔ ∀ j,(b:j<l.length)->j<i->maN a l (xsI a l j) l[j]=[]):=by
  intro i
  induction i with
  |zero=>intro _;rw [(Z8 a l).2];simp
  |succ i g =>
   intro hi;rw [(S4 h (by omega)).2.1,zu6,g (by omega)];grind
 rw [key l.length (Nat.le_refl _)];exact ⟨fun d j _ b=>d j b b,fun d j b _=>d j (Nat.zero_le _) b⟩
noncomputable def tS (f:List Cf->List Cf)(a:Aut)(l:List Ev):List Ev->List Cf->List (List Cf) |[],_=>[] |e::r,cs=>f (cfN a l cs e)::tS f a l r (f (cfN a l cs e))
theorem znj (f:List Cf->List Cf)(a:Aut)(l:List Ev)(e:Ev)(r:List Ev)(cs:List Cf):tS f a l (e::r) cs=f (cfN a l cs e)::tS f a l r (f (cfN a l cs e)):=rfl
theorem Zq (f:List Cf->List Cf)(a:Aut)(l:List Ev):∀ (r:List Ev) (cs:List Cf),(tS f a l r cs).length=r.length
 |[],_=>rfl
 |e::r,cs=>by rw [znj,length_cons,length_cons,Zq f a l r]
structure Ch (a:Aut) (l:List Ev) (f:List Cf->List Cf):Prop where
 sub:∀ i cs,Sb a l i cs->Sb a l i (f cs)
 cov:∀ cs,∀ c∈cs,covd (Bo a) (f cs) c=true
theorem y0q (a:Aut)(l:List Ev):Ch a l (redP (Bo a)):=⟨fun i cs h=>h.red _,fun cs c b=>by
 obtain ⟨y,h1,d⟩:=y12 (Bo a) b;exact any_eq_true.2 ⟨y,h1,d⟩⟩
theorem y22 {cs xs:List Ma}(h:∀ c∈cs,c∈xs)(e:xs=[]):cs=[]:=eq_nil_iff_forall_not_mem.2 (fun z b=>by simp_all)
variable {f:List Cf->List Cf}
theorem zwy (h:GS a l)(k:Ch a l f):∀ (n i:Nat) (cs:List Cf) (acc:List (List Cf)),i+n=l.length->Sb a l i cs->NM a l i->bS f a l (l.drop i) cs acc=(acc++tS f a l (l.drop i) cs,0)
 |0,i,cs,acc,h1,g,d=>by
  rw [drop_eq_nil_of_le (by omega)];show (acc,(0:Int))=(acc++[],0);rw [append_nil]
 |n+1,i,cs,acc,h1,g,d=>by
  have hi:i<l.length:=by omega
  rw [drop_eq_getElem_cons hi,zpn,znj,if_pos (y22 (zr6 g.sub _) (d i (Nat.le_refl _) hi)),zwy h k n (i+1) _ _ (by omega) (k.sub _ _ (g.next h hi)) (fun j m b=>d j (by omega) b)];simp
theorem zte (h:GS a l)(m:Ch a l f):∀ (n i:Nat) (cs:List Cf),i+n=l.length->Sb a l i cs->S.drop i=cs::tS f a l (l.drop i) cs->∀ j (d:j<S.length),i<=j->Sb a l j S[j]
 |0,i,cs,h1,o,b,j,d,g=>by
  have q:(S.drop i).length=1:=by rw [b,length_cons,Zq,length_drop];omega
  rw [length_drop] at q;obtain rfl:j=i:=by omega
  rw [drop_eq_getElem_cons d] at b;grind
 |n+1,i,cs,h1,o,b,j,d,g=>by
  have hi:i<l.length:=by omega
  have k:i<S.length:=by
   have:(S.drop i).length=l.length-i+1:=by rw [b,length_cons,Zq,length_drop]
   rw [length_drop] at this;omega
  rw [drop_eq_getElem_cons k] at b;obtain ⟨s,p⟩:=List.cons.inj b;by_cases e:j=i
  ·simp_all
  ·rw [drop_eq_getElem_cons hi,znj] at p;exact zte h m n (i+1) _ (by omega) (m.sub _ _ (o.next h hi)) p j d (by omega)
noncomputable def refS (f:List Cf->List Cf)(a:Aut)(l:List Ev):List (List Cf):=[cf0]::tS f a l l [cf0]
theorem zzv (h:GS a l)(g:Ch a l f):Zy a l (refS f a l)/\(∀ i (hi:i<(refS f a l).length),Sb a l i (refS f a l)[i]):=by
 have d:(refS f a l).length=l.length+1:=by unfold refS;rw [length_cons,Zq]
 have b:∀ i (hi:i<(refS f a l).length),Sb a l i (refS f a l)[i]:=fun i hi=>zte h g l.length 0 [cf0] (by omega) (sb0 a l) (by rw [drop_zero,drop_zero];rfl) i hi (Nat.zero_le _)
 exact ⟨⟨d,fun i hi=>by have:=(b i hi).len h (by omega);omega,fun i hi=>(b i hi).gd h (by omega)⟩,b⟩
theorem zv0 (h:GS a l):Qo N0 a=some (Bo a):=by
 unfold Qo;rw [zsg h.wf h.ok (fun x b=>(h.wf.ed x b).lc),A3]
theorem zde (h:GS a l):Ez N0 a l=some 0:=by
 have:=zv3 h l.length;simp_all
theorem zym (h:GS a l):Eh N0 a l=some (match msI a l l.length with|[]=>(2,⟨[]⟩,⟨refS (redP (Bo a)) a l⟩,0)|m::_=>(1,m,⟨[]⟩,0)):=by
 unfold Eh;rw [zde h,A3,Al,A5,if_pos rfl,(zo8 h).1,A3,Al,A5,if_pos rfl,A5,length_map];cases hm:msI a l l.length with
 |nil =>
  have d:=(y4l h).1 hm;have b:=zwy h (y0q a l) l.length 0 [cf0] [[cf0]] (by omega) (sb0 a l) d;rw [drop_zero] at b;rw [if_neg (by simp),zv0 h,Cb,Sj,Sj,Am,zuc h,b,A3];rfl
 |cons m r =>
  rw [if_pos (by simp),zhr]
variable {A:List (List Cf)}
theorem zke {B:List (List Cf)}(n:A.length=B.length)(o:A.length<=1000000)(d:∀ x∈A,x.length<=1000000/\∀ c∈x,cfOk c=true)(b:∀ x∈B,∀ c∈x,cfOk c=true):∀ (m k:Nat),k<=A.length->A.length<m+k->Pk N0 ⟨B⟩ ⟨A⟩ (some true) m (k:Int)=some (decide (A.drop k=B.drop k))
 |0,k,h1,p=>by omega
 |m+1,k,h1,p=>by
  unfold Pk;simp only [length_map,A5];by_cases h:k<A.length
  ·have g:k<B.length:=by omega
   have j:=d _ (getElem_mem h);rw [if_pos (by omega),Ac h,Ac g,y1e N0 (by decide) _ _ j.2 (b _ (getElem_mem g)) j.1,A3,drop_eq_getElem_cons h,drop_eq_getElem_cons g,Ag k (by omega)];have s:=zke n o d b m (k+1) (by omega) (by omega);rw [Al,A5];by_cases e:A[k]=B[k]
   ·have q:(A[k]::A.drop (k+1)=B[k]::B.drop (k+1)) ↔ A.drop (k+1)=B.drop (k+1):=⟨fun h=>(List.cons.inj h).2,fun h=>by rw [e,h]⟩;simp_all
   ·have q:¬(A[k]::A.drop (k+1)=B[k]::B.drop (k+1)):=fun h=>e (List.cons.inj h).1
    rw [if_neg e,decide_eq_false q]
  grind
theorem y01 (g:A.length<=1000000)(b:∀ x∈A,x.length<=1000000/\∀ c∈x,cfOk c=true):Iq N0 ⟨A⟩ ⟨A⟩=some true:=by
 unfold Iq;simp only [length_map,Al,A5];rw [if_pos trivial];have:=zke (A:=A) (B:=A) rfl g b (fun x d=>(b x d).2) N0 0 (Nat.zero_le _) (by unfold N0;omega);simpa using this
theorem ztk (h:GS a l)(b:Zy a l S):∀ x∈S,x.length<=1000000/\∀ c∈x,cfOk c=true:=fun x d=>by
 obtain ⟨i,hi,rfl⟩:=mem_iff_getElem.1 d;have h1:=b.few i hi;have k:=b.ln;have j:=h.len;exact ⟨by omega,fun c g=>(b.gd i hi c g).ok h (by omega)⟩
end Go.Proofs.YtidhlpjgifoneaaGreat
