/- Layer 57, plainly. -/
import Derived.Test.YtidhlpjgifoneaaGreatK37
set_option linter.unusedVariables false
set_option linter.unusedSimpArgs false
namespace Go.Proofs.YtidhlpjgifoneaaGreat
open Go.RowKit List
open List renaming drop_eq_getElem_cons->aA,length_map->aB,getElem_mem->aD,getElem?_eq_getElem->aE,drop_eq_nil_of_le->aG,mem_of_getElem?->aH,mem_filter->aK,drop_zero->aL,mem_cons->aM,range->aO
open Nat renaming zero_le->aC
open IntKind renaming wrap->aF
open Int renaming toNat_natCast->aJ
section
variable {α β:Type}
theorem y7z (i:Nat)(x:Option β):arz i x=x:=by unfold arz;rfl
def idr (rs:List α):Ars α:=((aO rs.length).map some,rs)
theorem y5m {rs:List α}{v:α}(h:rs.length<=1000000)(c:Ars α->Option β):aap (idr rs) v 24 c=c (idr (rs++[v])):=by
 unfold aap idr;rw [if_pos ⟨by simp;omega,by simp;omega⟩];simp [range_succ]
variable {k:Nat}
theorem zrf {rs:List α}(h:k<rs.length)(c:Nat->Option β):aob (idr rs) k c=c k:=by
 have:(idr rs).1[k]? = some (some k):=by simp [idr,h]
 unfold aob;rw [this]
variable {rs:List (List α)}{l:List α}
theorem zkn {j:Nat}(d:rs[j]? = some l)(b:k<l.length)(c:Nat->Option β):aix (idr rs) j (k:Int) c=c k:=by
 unfold aix;rw [show (idr rs).2=rs from rfl,d];simp [b]
theorem zzo {j:Nat}{v:α}(d:rs[j]? = some l)(b:l[k]? = some v)(c:α->Option β):ald (idr rs) j k c=c v:=by
 unfold ald;rw [show (idr rs).2=rs from rfl,d];simp only [b]
theorem zzk {j:Nat}{v:α}(d:rs[j]? = some l)(b:k<l.length)(c:Ars (List α)->Option β):asr (idr rs) j k v c=c (idr (rs.set j (l.set k v))):=by
 unfold asr;rw [show (idr rs).2=rs from rfl,d];simp [b,idr]
theorem y53 (i:Nat)(rs:List α)(x:Option β):frq i (idr rs) x=x:=by
 unfold frq idr;simp
theorem y2d (rs:List (List α)):aval (idr rs)=rs:=by
 unfold aval idr;apply ext_getElem;all_goals simp_all
end
theorem zwd (n:Nat)(f:Exn->List Bool->Option (List Bool))(e:Exn)(K:List Bool->Option (List Bool)):∀ m v,Pj n f e K m v=Dr n f e K m v
 |0,v=>rfl
 |m+1,v=>by unfold Pj Dr;simp only [zwd n f e K m]
theorem zwc (n:Nat)(f:Exn->List Bool->Option (List Bool))(e:Exn)(K:List Bool->Option (List Bool)):∀ m v,Pi n f e K m v=Dr n f e K m v
 |0,v=>rfl
 |m+1,v=>by unfold Pi Dr;simp only [zwc n f e K m]
theorem zwb (n:Nat)(f:Exn->List Bool->Option (List Bool))(e:Exn)(K:List Bool->Option (List Bool)):∀ m v,Ph n f e K m v=Dr n f e K m v
 |0,v=>rfl
 |m+1,v=>by unfold Ph Dr;simp only [zwb n f e K m]
theorem zjd {α:Type}{l:List α}{k:Nat}(h:k<l.length)(P:α->Prop):(∃ x∈l.drop k,P x) ↔ P l[k]\/∃ x∈l.drop (k+1),P x:=by
 rw [aA h];grind
def MkB (P:Nat->Prop)(t b:List Bool):Prop:=b.length=16/\∀ i,b[i]? = some true ↔ t[i]? = some true\/(i<16/\P i)
variable {P:Nat->Prop}{t:List Bool}
theorem MkB.comp {Q R:Nat->Prop}{c b:List Bool}(h:MkB P t c)(k:MkB Q c b)(d:∀ i,i<16->(R i ↔ P i\/Q i)):MkB R t b:=⟨k.1,fun i=>by
 rw [k.2,h.2];have:=d i;grind⟩
theorem MkB.nil (h:t.length=16)(b:∀ i,i<16->¬P i):MkB P t t:=⟨h,fun i=>by
 have:=b i;grind⟩
theorem MkB.set {j:Nat}(h:t.length=16)(c:j<16)(b:∀ i,i<16->(P i ↔ i=j)):MkB P t (t.set j true):=⟨by simpa using h,fun i=>by
 grind⟩
theorem MkB.congr {Q:Nat->Prop}{b:List Bool}(h:MkB P t b)(c:∀ i,i<16->(P i ↔ Q i)):MkB Q t b:=⟨h.1,fun i=>by
 rw [h.2];have:=c i;grind⟩
theorem zma (n:Nat)(f:Exn->List Bool->Option (List Bool))(l:List (Nat×Exn))(e:Exn)(g:e.fArgs=l.map (fun p=>Av p.2))(v:l.length<=4000000)(d:∀ p∈l,∀ t:List Bool,t.length=16->∃ b,f p.2 t=some b/\MkB (fun i=>Occ i p.2) t b) :
  ∀ (m k:Nat) (t:List Bool),k<=l.length->l.length<m+k->t.length=16->∃ b,Dr n f e (fun y=>some y) m ((k:Int),t)=some b/\MkB (fun i=>∃ p∈l.drop k,Occ i p.2) t b
 |0,k,t,h1,w,_=>by omega
 |m+1,k,t,h1,w,j=>by
  unfold Dr;simp only [g,aB,A5];by_cases h:k<l.length
  ·rw [if_pos (by omega),Gb h];obtain ⟨o,u,c⟩:=d l[k] (aD h) t j;rw [u,Cd,Ad k (by omega)];obtain ⟨b,r,q⟩:=zma n f l e g v d m (k+1) o (by omega) (by omega) c.1;exact ⟨b,r,c.comp q (fun i _=>zjd h _)⟩
  ·rw [if_neg (by omega)];exact ⟨t,rfl,MkB.nil j (fun i _ ⟨p,x,_⟩=>by grind)⟩
theorem y6m:∀ (s:Nat) (e:Exn),ETr s e->s<=4000000->∀ n,s+1<n->∀ t:List Bool,t.length=16->∃ c,E5 n e t=some c/\MkB (fun i=>Occ i e) t c:=by
 intro s
 induction s using Nat.strongRecOn with
 |ind s IH =>
  intro e u w n x t b;cases u with
  |mk l e h q =>
   obtain ⟨d,rfl⟩:∃ d,n=d + 1:=⟨n-1,by omega⟩;have z:=T7 (l:=l) (fun p f=>(h p f).pos);have go:∀ t:List Bool,t.length=16->∃ c,Dr d (E5 d) e (fun y=>some y) d (0,t)=some c/\MkB (fun i=>∃ p∈l,Occ i p.2) t c:=fun t b=>zma d (E5 d) l e q (by omega) (fun p f t b=>by
    have:=Jt f;exact IH p.1 (by omega) p.2 (h p f) (by omega) d (by omega) t b) d 0 t (by omega) (by omega) b
   simp only [E5,zwd,zwc,zwb];rw [zx0,A3];have no:(∀ i,i<16->¬own1 i e)->∃ c,Dr d (E5 d) e (fun y=>some y) d (0,t)=some c/\MkB (fun i=>Occ i e) t c:=fun v=>by
    obtain ⟨c,j,g⟩:=go t b;refine ⟨c,j,g.congr (fun i hi=>?_)⟩;rw [zqd q];simp_all
   simp only [A5,aB,b];by_cases o:usV e.fOp=true;rotate_left
   ·have m:usV e.fOp=false:=by cases h:usV e.fOp<;>simp_all
    rw [m,Ap];exact no (fun i _ h=>o h.1)
   rw [o,Ao];by_cases r:0<=e.fVar;rotate_left
   ·rw [if_neg r];exact no (fun i _ h=>by have:=h.2;omega)
   rw [if_pos r];by_cases h1:e.fVar<16;rotate_left
   ·rw [if_neg (by omega)];exact no (fun i hi h=>by have:=h.2;omega)
   rw [if_pos (by omega),zqe r (by omega),Jz (by omega)];obtain ⟨c,j,g⟩:=go (t.set e.fVar.toNat true) (by simpa using b);refine ⟨c,j,(MkB.set (P:=fun i=>own1 i e) b (by omega) (fun i hi=>⟨fun h=>by have:=h.2;omega,fun h=>⟨o,by omega⟩⟩)).comp g (fun i hi=>?_)⟩;rw [zqd q]
def filB (t:List Bool)(k:Nat):List Int:=(t.zipIdx.drop k).filterMap (fun p=>if p.1 then some (p.2:Int) else none)
theorem zyl (t:List Bool)(k:Nat)(h:k<t.length):filB t k=(if t[k]=true then [(k:Int)] else [])++filB t (k+1):=by
 unfold filB;have b:k<t.zipIdx.length:=by rw [length_zipIdx];exact h
 rw [aA b,filterMap_cons];grind
theorem y1v (t:List Bool)(v:Int):v∈filB t 0 ↔ ∃ i:Nat,v=(i:Int)/\t[i]? = some true:=by
 unfold filB;rw [aL,mem_filterMap];constructor
 ·grind
 ·rintro ⟨i,rfl,h⟩;exact ⟨(true,i),List.mem_zipIdx_iff_getElem?.2 h,by simp⟩
theorem zbn (n:Nat)(t:List Bool)(b:t.length=16)(K:List Int->Option (List Int)):∀ (m k:Nat) (out:List Int),k<=16->16<m+k->out.length<=k->Hz n t K m ((k:Int),out)=K (out++filB t k)
 |0,k,out,h1,c,_=>by omega
 |m+1,k,out,h1,c,e=>by
  unfold Hz;simp only [A5,aB,b];by_cases h:k<16
  ·rw [if_pos (by omega),Al,Ct (by omega),D7 (by omega),zyl t k (by omega),Ad k (by omega)];cases d:t[k] with
   |true =>
    rw [Ao,Bu (by simp;omega) (by omega),zbn n t b K m (k+1) _ (by omega) (by omega) (by simp;omega)];simp
   |false =>
    rw [Ap,zbn n t b K m (k+1) _ (by omega) (by omega) (by omega)];simp
  ·rw [if_neg (by omega)];unfold filB;rw [aG (by rw [length_zipIdx];omega)];simp
theorem zm6 {e:Exn}(h:WfE e):∃ vs:List Int,U0 N0 e=some vs/\vs.length<=16/\∀ v,v∈vs ↔ OccV v e:=by
 obtain ⟨z,g,i⟩:=h;obtain ⟨t,f,d,j⟩:=y6m z e i g N0 (by unfold N0;omega) (replicate 16 false) (by simp);refine ⟨filB t 0,?_,?_,fun v=>?_⟩
 ·unfold U0;have hm:=y2z (n:=16) (bytes:=1) (by omega) (by omega) false (fun c=>bndM 9 (E5 N0 e c) fun b=>Hz N0 b (fun k1_0_0y=>some k1_0_0y) N0 (0,[]));refine Eq.trans hm ?_;rw [f,Cd];have:=zbn N0 t d (fun y=>some y) N0 0 [] (by omega) (by unfold N0;omega) (by simp);simpa using this
 ·unfold filB;refine Nat.le_trans (length_filterMap_le _ _) ?_;simp_all
 ·rw [y1v];unfold OccV;grind
theorem ze5 (n:Nat)(vs:List Int)(j:vs.length<=16)(c:∀ v∈vs,0<=v/\v<16)(K:List Bool->Option (List Bool)):∀ (m k:Nat) (t:List Bool),k<=vs.length->vs.length<m+k->t.length=16->∃ b,Pd n vs K m ((k:Int),t)=K b/\MkB (fun i=>(i:Int)∈vs.drop k) t b
 |0,k,t,h1,p,_=>by omega
 |m+1,k,t,h1,p,e=>by
  unfold Pd;simp only [aB,A5];by_cases h:k<vs.length
  ·have o:=c _ (aD h);rw [if_pos (by omega),A9 h,zqe o.1 (by omega),Jz (by omega),Ad k (by omega)];have d:MkB (fun i=>(i:Int)=vs[k]) t (t.set vs[k].toNat true):=MkB.set e (by omega) (fun i hi=>by omega);obtain ⟨b,g,f⟩:=ze5 n vs j c K m (k+1) _ (by omega) (by omega) d.1;exact ⟨b,g,d.comp f (fun i _=>by rw [aA h,aM])⟩
  ·rw [if_neg (by omega)];exact ⟨t,rfl,MkB.nil e (fun i _ q=>by grind)⟩
theorem zir {e:Exn}(g:WfE e)(h:t.length=16):∃ b,Lt N0 e t=some b/\MkB (fun i=>OccV (i:Int) e) t b:=by
 obtain ⟨vs,f,d,c⟩:=zm6 g;unfold Lt;rw [f,A3];obtain ⟨b,o,m⟩:=ze5 N0 vs d (fun v j=>zhh ((c v).1 j)) (fun y=>some y) N0 0 t (aC _) (by unfold N0;omega) h;simp_all
theorem zm9 {a:Aut}(b:Stt)(s:Int)(u:b.fGuards.length<=2000000)(e:∀ g∈b.fGuards,WfE g.fCond)(K:List Bool->Option (List Bool)):∀ (m k:Nat) (t:List Bool),k<=b.fGuards.length->b.fGuards.length<m+k->t.length=16->∃ c,Ls N0 s a b K m ((k:Int),t)=K c/\MkB (fun i=>∃ g∈b.fGuards.drop k,OccV (i:Int) g.fCond) t c
 |0,k,t,h1,v,_=>by omega
 |m+1,k,t,h1,v,f=>by
  unfold Ls;simp only [aB,A5];by_cases h:k<b.fGuards.length
  ·obtain ⟨j,r,d⟩:=zir (e _ (aD h)) f;rw [if_pos (by omega),A9 h,r,Cd,Ad k (by omega)];obtain ⟨c,q,o⟩:=zm9 (a:=a) b s u e K m (k+1) j (by omega) (by omega) d.1;exact ⟨c,q,d.comp o (fun i _=>zjd h _)⟩
  ·rw [if_neg (by omega)];exact ⟨t,rfl,MkB.nil f (fun i _ ⟨p,w,_⟩=>by grind)⟩
theorem zm7 (es:List Ed)(j:Nat)(d:j<es.length)(ys:List Exn)(c:es[j].fChecks=ys.map Av)(x:ys.length<=2000000)(g:∀ e∈ys,WfE e)(w:List Bool)(K:List Bool->Option (List Bool)):∀ (m k:Nat) (t:List Bool),k<=ys.length->ys.length<m+k->t.length=16->∃ b,Qu N0 (es,(j:Int),w) K m ((k:Int),t)=K b/\MkB (fun i=>∃ e∈ys.drop k,OccV (i:Int) e) t b
 |0,k,t,h1,y,_=>by omega
 |m+1,k,t,h1,y,o=>by
  unfold Qu;rw [A9 d];simp only [c,aB,A5];by_cases h:k<ys.length
  ·obtain ⟨q,v,f⟩:=zir (g _ (aD h)) o;rw [if_pos (by omega),A9 d,c,y31 h,v,Cd,Ad k (by omega)];obtain ⟨b,u,r⟩:=zm7 es j d ys c x g w K m (k+1) q (by omega) (by omega) f.1;exact ⟨b,u,f.comp r (fun i _=>zjd h _)⟩
  ·rw [if_neg (by omega)];exact ⟨t,rfl,MkB.nil o (fun i _ ⟨p,z,_⟩=>by grind)⟩
theorem zm8 (es:List Ed)(z:es.length<=1100000)(e:∀ x∈es,WfX x)(c:∀ x∈es,x.fChecks.length<=1100000)(K:List Bool->Option (List Bool)):∀ (m k:Nat) (t:List Bool),k<=es.length->es.length<m+k->t.length=16->∃ d,H4 N0 K m (es,(k:Int),t)=K d/\MkB (fun i=>∃ x∈es.drop k,OwnX x (i:Int)) t d
 |0,k,t,h1,A,_=>by omega
 |m+1,k,t,h1,A,j=>by
  unfold H4;simp only [aB,A5];by_cases h:k<es.length
  ·have hm:=aD h;obtain ⟨o,B⟩:=zd8 (e _ hm);have b:=c _ hm;obtain ⟨r,y,g⟩:=zir (e _ hm).cond j;rw [if_pos (by omega),A9 h,y,Cd];obtain ⟨q,u,f⟩:=zm7 es k h (chE es[k]) o (by rw [o] at b;simp at b;omega) B t (fun k3_2_0y=>(H4 N0 K m) (es,(aF .i64 ((k:Int)+1)),k3_2_0y)) N0 0 r (aC _) (by grind) g.1;obtain ⟨d,w,v⟩:=zm8 es z e c K m (k+1) q (by omega) (by omega) f.1;refine ⟨d,u.trans ?_,(g.comp (R:=fun i=>OwnX es[k] (i:Int)) f (fun i _=>?_)).comp v (fun i _=>zjd h _)⟩
   ·rw [Ad k (by omega)];exact w
   ·unfold OwnX;grind
  ·rw [if_neg (by omega)];exact ⟨t,rfl,MkB.nil j (fun i _ ⟨p,C,_⟩=>by grind)⟩
variable {a:Aut}{s:Nat}
theorem y6l (m:WfA a)(g:∀ x∈a.fEdges,x.fChecks.length<=1100000)(f:a.fEdges.length<=1000000)(o:s<a.fStates.length):∃ t:List Bool,V4 N0 a (s:Int)=some t/\t.length=16/\∀ i:Nat,t[i]? = some true ↔ i<16/\OwnV a s (i:Int):=by
 have e:=m.st _ (aD o);have c:∀ x,x∈De a (s:Int) ↔ x∈a.fEdges/\x.fFrom=(s:Int):=fun x=>by unfold De;simp
 have z:(De a (s:Int)).length<=a.fEdges.length:=by unfold De;exact length_filter_le _ _
 unfold V4;have hm:=y2z (n:=16) (bytes:=1) (by omega) (by omega) false (fun q=>idx a.fStates (s:Int) fun p=>Ls N0 (s:Int) a p (fun k1_0_0y=>bnd (J7 N0 a (s:Int)) fun b=>H4 N0 (fun k2_1_0y=>some k2_1_0y) N0 (b,0,k1_0_0y)) N0 (0,q));obtain ⟨u,w,j⟩:=zm9 (a:=a) a.fStates[s] (s:Int) (by omega) e.2 (fun k1_0_0y=>bnd (J7 N0 a (s:Int)) fun b=>H4 N0 (fun k2_1_0y=>some k2_1_0y) N0 (b,0,k1_0_0y)) N0 0 (replicate 16 false) (aC _) (by unfold N0;omega) (by simp);obtain ⟨r,v,h⟩:=zm8 (De a (s:Int)) (by omega) (fun x d=>m.ed x ((c x).1 d).1) (fun x d=>g x ((c x).1 d).1) (fun y=>some y) N0 0 u (aC _) (by unfold N0;omega) j.1;refine ⟨r,?_,h.1,fun i=>?_⟩
 ·refine hm.trans ?_;rw [A9 o];refine w.trans ?_;rw [y2t _ _ f,A3];exact v
 ·rw [h.2,j.2,getElem?_replicate];unfold OwnV OwnG;grind
def MB (rs:List (List Bool))(s x:Nat):Prop:=∃ l,rs[s]? = some l/\l[x]? = some true
structure ShB (n:Nat) (rs:List (List Bool)):Prop where
 len:rs.length=n
 row:∀ l∈rs,l.length=16
variable {n:Nat}{rs:List (List Bool)}
theorem ShB.at (h:ShB n rs)(b:s<n):∃ l,rs[s]? = some l/\l.length=16:=⟨rs[s]'(by rw [h.len];exact b),aE (by rw [h.len];exact b),h.row _ (aD _)⟩
theorem ShB.set (h:ShB n rs){x:Nat}{l:List Bool}{b:Bool}(d:rs[s]? = some l)(e:x<16):ShB n (rs.set s (l.set x b)):=⟨by rw [length_set];exact h.len,fun q c=>by
 rcases mem_or_eq_of_mem_set c with c|c
 ·exact h.row q c
 ·rw [c,length_set];exact h.row l (aH d)⟩
theorem y7b (h:ShB n rs){x:Nat}{l:List Bool}{b:Bool}(d:rs[s]? = some l)(i:x<16)(j:MB rs s x->b=true)(t y:Nat):MB (rs.set s (l.set x b)) t y ↔ MB rs t y\/(t=s/\y=x/\b=true):=by
 have f:s<rs.length:=(List.getElem?_eq_some_iff.1 d).1;have g:=h.row l (aH d);unfold MB at *;by_cases c:t=s
 ·subst c;rw [getElem?_set_self f,d];by_cases e:y=x
  ·simp_all
  grind
 grind
theorem zgy (z w:Int×Ars (List Bool))(x:Ed){f t:Nat}(E:x.fFrom=(f:Int))(g:f<n)(D:x.fTo=(t:Int))(j:t<n)(K:Ars (List Bool)->Option (List (List Bool))) :
  ∀ (m k:Nat) (rs:List (List Bool)),k<=16->16<m+k->ShB n rs->∃ c,Eg N0 a n z w x K m ((k:Int),idr rs)=K (idr c)/\ShB n c/\∀ s y,MB c s y ↔ MB rs s y\/(s=f/\k<=y/\y<16/\MB rs t y)
 |0,k,rs,h1,J,_=>by omega
 |m+1,k,rs,h1,J,p=>by
  unfold Eg;rw [Ay,Al,A5,if_pos (by omega)];unfold I6;rw [A5];by_cases h:k<16
  ·obtain ⟨lf,d,C⟩:=p.at g;obtain ⟨lt,o,B⟩:=p.at j;have u:lf[k]? = some lf[k]:=aE (by omega);have r:lt[k]? = some lt[k]:=aE (by omega);have step:∀ b:Bool,b=(lf[k] || lt[k])->∃ c,Eg N0 a n z w x K m (((k+1:Nat):Int),idr (rs.set f (lf.set k b)))=K (idr c)/\ShB n c/\∀ s y,MB c s y ↔ MB rs s y\/(s=f/\k<=y/\y<16/\MB rs t y):=fun b v=>by
    have q:MB rs f k ↔ lf[k]=true:=⟨fun ⟨l,M,L⟩=>by grind,fun e=>⟨lf,d,by rw [u,e]⟩⟩;have A:MB rs t k ↔ lt[k]=true:=⟨fun ⟨l,M,L⟩=>by grind,fun e=>⟨lt,o,by rw [r,e]⟩⟩;have i:=y7b (b:=b) p d h (fun e=>by rw [v,q.1 e];rfl);have I:b=true ↔ MB rs f k\/MB rs t k:=by rw [v,q,A,Bool.or_eq_true]
    obtain ⟨c,H,G,F⟩:=zgy z w x E g D j K m (k+1) _ (by omega) (by omega) (p.set (b:=b) d h);refine ⟨c,H,G,fun s y=>?_⟩;rw [F,i,i];grind
   rw [if_pos (by omega),Al,Dp (by omega) (by omega),E,aJ,zrf (by rw [p.len];exact g),Dp (by omega) (by omega),zrf (by rw [p.len];exact g),zkn d (by omega),zzo d u,Ad k (by omega)];cases v:lf[k] with
   |true =>
    rw [Ao,zkn d (by omega),zzk d (by omega)];exact step true (by rw [v];rfl)
   |false =>
    rw [Ap,Dp (by omega) (by omega),D,aJ,zrf (by rw [p.len];exact j),zkn o (by omega),zzo o r,zkn d (by omega),zzk d (by omega)];exact step _ (by rw [v];rfl)
  grind
theorem zq1 (c b:Int×Ars (List Bool))(x:Ed)(e:x.fTo<0)(K:Ars (List Bool)->Option (List (List Bool)))(m:Nat)(hm:0<m)(v:Int×Ars (List Bool)):Eg N0 a n c b x K m v=K v.2:=by
 obtain ⟨m,rfl⟩:∃ d,m=d + 1:=⟨m-1,by omega⟩;unfold Eg;rw [Ay,Al,A5,if_neg (by omega)];unfold I6;rw [Ap]
structure Ps (a:Aut) (es:List Ed) (rs rs':List (List Bool)):Prop where
 sh:ShB a.fStates.length rs'
 mono:∀ s y,MB rs s y->MB rs' s y
 snd:(∀ s y,MB rs s y->Rd a s (y:Int))->∀ s y,MB rs' s y->Rd a s (y:Int)
 mark:∀ x∈es,∀ f t y:Nat,x.fFrom=(f:Int)->x.fTo=(t:Int)->MB rs t y->MB rs' f y
theorem zgz (I:AOk a)(D:a.fEdges.length<=1100000)(i:Int×Ars (List Bool))(K:Ars (List Bool)->Option (List (List Bool))) :
  ∀ (m k:Nat) (rs:List (List Bool)),k<=a.fEdges.length->a.fEdges.length<m+k->ShB a.fStates.length rs->∃ d,Gm N0 a a.fStates.length i K m ((k:Int),idr rs)=K (idr d)/\Ps a (a.fEdges.drop k) rs d
 |0,k,rs,h1,F,_=>by omega
 |m+1,k,rs,h1,F,z=>by
  unfold Gm;simp only [aB,A5];by_cases h:k<a.fEdges.length
  ·have g:=aD h;have o:=I.ed _ g;obtain ⟨f,H⟩:∃ f:Nat,a.fEdges[k].fFrom=(f:Int):=⟨a.fEdges[k].fFrom.toNat,by have:=o.frm;omega⟩;have E:f<a.fStates.length:=by have:=o.frm;omega
   rw [if_pos (by omega),A9 h];have one:∃ b,Eg N0 a a.fStates.length i ((k:Int),idr rs) a.fEdges[k] (fun k4_3_0y=>(Gm N0 a a.fStates.length i K m) ((aF .i64 ((k:Int)+1)),k4_3_0y)) N0 (0,idr rs)=Gm N0 a a.fStates.length i K m (((k+1:Nat):Int),idr b)/\Ps a [a.fEdges[k]] rs b:=by
    by_cases M:0<=a.fEdges[k].fTo
    ·obtain ⟨t,G⟩:∃ t:Nat,a.fEdges[k].fTo=(t:Int):=⟨a.fEdges[k].fTo.toNat,by omega⟩;have C:t<a.fStates.length:=by have:=o.tgt;omega
     obtain ⟨b,B,j,A⟩:=zgy (a:=a) i ((k:Int),idr rs) a.fEdges[k] H E G C (fun k4_3_0y=>(Gm N0 a a.fStates.length i K m) ((aF .i64 ((k:Int)+1)),k4_3_0y)) N0 0 rs (by omega) (by unfold N0;omega) z;refine ⟨b,B.trans (by rw [Ad k (by omega)]),j,fun s y h=>(A s y).2 (Or.inl h),fun e s y h=>?_,fun x c u p y w v h=>?_⟩
     ·rcases (A s y).1 h with h|⟨rfl,_,_,h⟩
      ·exact e s y h
      ·exact .step _ g _ t _ H G (e t y h)
     ·rw [mem_singleton.1 c] at w v;have h1:u=f:=by omega
      have F:p=t:=by omega
      subst h1;subst F;refine (A _ y).2 (Or.inr ⟨rfl,aC _,?_,h⟩);obtain ⟨l,L,N⟩:=h;have:=z.row l (aH L);grind
    ·refine ⟨rs,?_,z,fun s y h=>h,fun e=>e,fun x c u p y w v h=>?_⟩
     ·rw [zq1 _ _ _ (by omega) _ _ (by unfold N0;omega),Ad k (by omega)]
     grind
   obtain ⟨b,B,j⟩:=one;obtain ⟨d,J,q⟩:=zgz I D i K m (k+1) b (by omega) (by omega) j.sh;refine ⟨d,B.trans J,q.sh,fun s y h=>q.mono s y (j.mono s y h),fun e=>q.snd (j.snd e),fun x c u p y w v r=>?_⟩;rw [aA h] at c;rcases aM.1 c with c|c
   ·exact q.mono _ _ (j.mark x (by rw [c];simp) u p y w v r)
   ·exact q.mark x c u p y w v (j.mono _ _ r)
  ·rw [if_neg (by omega)];exact ⟨rs,rfl,z,fun s y h=>h,fun e=>e,fun x c=>by grind⟩
open Classical in
noncomputable def cntB (n:Nat)(rs:List (List Bool))(y:Nat):Nat:=(aO n).countP (fun s=>decide (MB rs s y))
structure RdI (a:Aut) (k:Nat) (rs:List (List Bool)):Prop where
 sh:ShB a.fStates.length rs
 own:∀ s y:Nat,y<16->OwnV a s (y:Int)->MB rs s y
 snd:∀ s y,MB rs s y->Rd a s (y:Int)
 all:∀ y:Nat,y<16->(∀ s,Rd a s (y:Int)->MB rs s y)\/k<=cntB a.fStates.length rs y
open Classical in
theorem RdI.round {k:Nat}{c:List (List Bool)}(B:AOk a)(h:RdI a k rs)(p:Ps a a.fEdges rs c):RdI a (k+1) c:=⟨p.sh,fun s y e i=>p.mono _ _ (h.own s y e i),p.snd h.snd,fun y e=>by
 rcases h.all y e with w|C
 ·exact Or.inl (fun s b=>p.mono _ _ (w s b))
 ·by_cases d:∀ x∈a.fEdges,∀ f t:Nat,x.fFrom=(f:Int)->x.fTo=(t:Int)->MB rs t y->MB rs f y
  ·refine Or.inl (fun s b=>p.mono _ _ ?_);generalize r:(y:Int)=z at b
   induction b with
   |own t x i=>subst r;exact h.own t y e i
   |step ed A t s x u b _ ih=>exact d ed A t s u b (ih r)
  ·refine Or.inr ?_;obtain ⟨x,g,f,t,q,o,h1,m⟩:∃ x∈a.fEdges,∃ f t:Nat,x.fFrom=(f:Int)/\x.fTo=(t:Int)/\MB rs t y/\¬MB rs f y:=Classical.byContradiction (fun v=>d (fun x g f t q o h1=>Classical.byContradiction (fun m=>v ⟨x,g,f,t,q,o,h1,m⟩)));have j:f<a.fStates.length:=by have:=(B.ed x g).frm;omega
   have:cntB a.fStates.length rs y<cntB a.fStates.length c y:=by
    unfold cntB;refine zeq (fun s _ b=>?_) ⟨f,mem_range.2 j,?_,?_⟩
    ·exact decide_eq_true (p.mono _ _ (of_decide_eq_true b))
    ·exact decide_eq_true (p.mark x g f t y q o h1)
    ·exact decide_eq_false m
   omega⟩
theorem RdI.done (d:AOk a)(h:RdI a a.fStates.length rs):∀ s y:Nat,MB rs s y ↔ y<16/\Rd a s (y:Int):=fun s y=>by
 have b:∀ {s:Nat} {z:Int},Rd a s z->s<a.fStates.length:=fun {s z} h=>by
  induction h with
  |own t x h =>
   rcases h with ⟨m,h,_⟩|⟨ed,h1,q,_⟩
   ·grind
   ·have:=(d.ed ed h1).frm;omega
  |step ed g t s x o _ _ _=>have:=(d.ed ed g).frm;omega
 constructor
 ·intro hm;refine ⟨?_,h.snd s y hm⟩;obtain ⟨l,j,r⟩:=hm;have:=h.sh.row l (aH j);grind
 ·rintro ⟨e,c⟩;rcases h.all y e with f|i
  ·exact f s c
  ·have heq:cntB a.fStates.length rs y=(aO a.fStates.length).length:=by
    have:=countP_le_length (p:=fun s=>@decide (MB rs s y) (Classical.propDecidable _)) (l:=aO a.fStates.length);unfold cntB at i ⊢;rw [length_range] at this ⊢;omega
   have:=List.countP_eq_length.1 heq s (mem_range.2 (b c));simp_all
theorem zh0 (d:AOk a)(c:a.fEdges.length<=1100000)(K:Ars (List Bool)->Option (List (List Bool))) :
  ∀ (m k:Nat) (rs:List (List Bool)),k<=a.fStates.length->a.fStates.length<m+k->RdI a k rs->∃ b,Ib N0 a a.fStates.length K m ((k:Int),idr rs)=K (idr b)/\RdI a a.fStates.length b
 |0,k,rs,h1,q,_=>by omega
 |m+1,k,rs,h1,q,g=>by
  have p:=d.st;unfold Ib;simp only [aB,A5];by_cases h:k<a.fStates.length
  ·rw [if_pos (by omega)];obtain ⟨e,o,f⟩:=zgz d c ((k:Int),idr rs) (fun k3_2_0y=>(Ib N0 a a.fStates.length K m) ((aF .i64 ((k:Int)+1)),k3_2_0y)) N0 0 rs (aC _) (by unfold N0;omega) g.sh;rw [aL] at f;obtain ⟨b,j,i⟩:=zh0 d c K m (k+1) e (by omega) (by omega) (g.round d f);exact ⟨b,o.trans (by rw [Ad k (by omega)];exact j),i⟩
  grind
theorem zh1 (g:WfA a)(j:AOk a)(d:∀ x∈a.fEdges,x.fChecks.length<=1100000)(c:a.fEdges.length<=1000000)(K:Nat->Ars (List Bool)->Option (List (List Bool))) :
  ∀ (m k:Nat) (rs:List (List Bool)),k<=a.fStates.length->a.fStates.length<m+k->ShB k rs->(∀ s y,MB rs s y ↔ s<k/\y<16/\OwnV a s (y:Int))->∃ b,Pw N0 a K m (k,(k:Int),idr rs)=K a.fStates.length (idr b)/\ShB a.fStates.length b/\∀ s y,MB b s y ↔ s<a.fStates.length/\y<16/\OwnV a s (y:Int)
 |0,k,rs,h1,w,_,_=>by omega
 |m+1,k,rs,h1,w,f,v=>by
  have r:=j.st;unfold Pw;simp only [aB,A5];by_cases h:k<a.fStates.length
  ·obtain ⟨t,p,z,o⟩:=y6l g d c h;rw [if_pos (by omega),p,Jo,y5m (by rw [f.len];omega),Ad k (by omega)];refine zh1 g j d c K m (k+1) (rs++[t]) (by omega) (by omega) ⟨by rw [length_append,f.len];rfl,fun l i=>(mem_append.1 i).elim (f.row l) (fun i=>by simp_all)⟩ (fun s y=>?_);have e:MB (rs++[t]) s y ↔ MB rs s y\/(s=k/\t[y]? = some true):=by
    unfold MB;rw [List.getElem?_append,f.len];by_cases q:s<k
    ·rw [if_pos q];grind
    ·have:rs[s]? = none:=getElem?_eq_none (by rw [f.len];omega);by_cases u:s=k
     ·subst u;simp [this]
     grind
   rw [e,v,o];grind
  grind
theorem y46 (q:WfA a)(b:AOk a)(f:∀ x∈a.fEdges,x.fChecks.length<=1100000)(e:a.fEdges.length<=1000000):∃ rs:List (List Bool),Mc N0 a=some rs/\ShB a.fStates.length rs/\∀ s y:Nat,MB rs s y ↔ y<16/\Rd a s (y:Int):=by
 unfold Mc;rw [y7z,Al];obtain ⟨rs,o,m,i⟩:=zh1 q b f e (fun k1_0_0y0 k1_0_0y1=>Ib N0 a k1_0_0y0 (fun k2_1_0y=>frq 7003 k2_1_0y <| reg <| some (aval k2_1_0y)) N0 (0,k1_0_0y1)) N0 0 [] (aC _) (by have:=b.st;unfold N0;omega) ⟨rfl,by simp⟩ (fun s y=>by simp [MB]);have r:∀ {s:Nat} {z:Int},OwnV a s z->s<a.fStates.length:=fun {s z} c=>by
  rcases c with ⟨u,h,_⟩|⟨ed,h1,v,_⟩
  ·grind
  ·have:=(b.ed ed h1).frm;omega
 obtain ⟨d,j,g⟩:=zh0 b (by omega) (fun k2_1_0y=>frq 7003 k2_1_0y <| reg <| some (aval k2_1_0y)) N0 0 rs (aC _) (by have:=b.st;unfold N0;omega) ⟨m,fun s y p c=>(i s y).2 ⟨r c,p,c⟩,fun s y h=>.own s _ ((i s y).1 h).2.2,fun y _=>Or.inr (aC _)⟩;refine ⟨d,o.trans (j.trans ?_),g.sh,g.done b⟩;rw [y53,Al,y2d]
variable {l:List Ev}
theorem zwh (h:GS a l):∃ rs:List (List Bool),Mc N0 a=some rs/\ShB a.fStates.length rs/\∀ s y:Nat,MB rs s y ↔ y<16/\Rd a s (y:Int) :=
 y46 h.wf h.ok (fun x b=>(h.wf.ed x b).lc) (by have:=h.edges;omega)
theorem y7v (c:WfA a)(d:Md N0 a l=some true):∃ e:Int,F7 N0 a l=some e/\F5 N0 a l=some e/\(e=0->GS a l):=by
 obtain ⟨b,g,o⟩:=zpy a c l;rw [d] at g;obtain rfl:=Option.some.inj g;obtain ⟨_,p,_⟩:=o rfl;obtain ⟨r,j,i,_⟩:=ziu N0 (by decide) a c;have key:∃ e:Int,F7 N0 a l=some e/\F5 N0 a l=some e:=by
  unfold F7 F5;rw [j,i,A3,A3,y4h N0 l (by unfold N0;omega) (by decide) (by omega),zxc N0 l (by unfold N0;omega) (by omega),A3,Ah,A5];by_cases h:r=0
  ·simp_all
  ·simp_all
 obtain ⟨e,m,f⟩:=key;exact ⟨e,m,f,fun h=>GS.of c d (by rw [f,h])⟩
theorem zus:Mn N0 ⟨[]⟩ ⟨[]⟩=some true:=y2p (A:=[]) (by simp) (fun x b=>by cases b)
def ofV (c:Cf)(v:Int):List Rf:=(c.fBindings.filter (fun b=>decide (b.fVar=v))).map (·.fRef)
theorem ze0 (c:Cf)(v:Int)(e:c.fBindings.length<=1000000)(K:List Rf->Option (List Rf)):∀ (m k:Nat) (out:List Rf),k<=c.fBindings.length->c.fBindings.length<m+k->out.length<=k->Mb N0 v c K m ((k:Int),out)=K (out++((c.fBindings.drop k).filter (fun b=>decide (b.fVar=v))).map (·.fRef))
 |0,k,out,h1,f,_=>by omega
 |m+1,k,out,h1,f,i=>by
  unfold Mb;simp only [aB,A5,Al];by_cases h:k<c.fBindings.length
  ·rw [if_pos (by omega),A9 h,A9 h,aA h,filter_cons,Ad k (by omega)];have g:(⟨c.fBindings[k].fRef.fTime,c.fBindings[k].fRef.fSource,c.fBindings[k].fRef.fSeq⟩:Rf)=c.fBindings[k].fRef:=rfl;by_cases d:c.fBindings[k].fVar=v
   ·rw [if_pos d,g,Bu (by simp;omega) (by omega),ze0 c v e K m (k+1) _ (by omega) (by omega) (by simp;omega),if_pos (by simpa using d)];simp
   ·rw [if_neg d,ze0 c v e K m (k+1) _ (by omega) (by omega) (by omega),if_neg (by simpa using d)]
  grind
theorem y2q (c:Cf)(v:Int)(b:c.fBindings.length<=1000000):S5 N0 c v=some (ofV c v):=by
 unfold S5;have:=ze0 c v b (fun y=>some y) N0 0 [] (aC _) (by unfold N0;omega) (by simp);simpa [ofV] using this
theorem y4n (c:Cf)(v:Int):(ofV c v).length<=c.fBindings.length:=by
 unfold ofV;grind
theorem y65 (x y:Rf):(decide (x.fTime=y.fTime) && (decide (x.fSource=y.fSource) && (decide (x.fSeq=y.fSeq) && true)))=decide (x=y):=by
 obtain ⟨a,b,c⟩:=x;obtain ⟨f,e,d⟩:=y;simp_all
theorem ze3 (a b:List Rf)(d:a.length=b.length)(f:a.length<=1000000):∀ (m k:Nat),k<=a.length->a.length<m+k->Pv N0 a b (some true) m (k:Int)=some (decide (a.drop k=b.drop k))
 |0,k,h1,g=>by omega
 |m+1,k,h1,g=>by
  unfold Pv;simp only [aB,A5];by_cases h:k<a.length
  ·have c:k<b.length:=by omega
   rw [if_pos (by omega),A9 h,A9 c,y65,aA h,aA c,Ad k (by omega),Ah,A5,ze3 a b d f m (k+1) (by omega) (by omega)];by_cases e:a[k]=b[k]
   ·rw [if_pos e];have q:(a[k]::a.drop (k+1)=b[k]::b.drop (k+1)) ↔ a.drop (k+1)=b.drop (k+1):=⟨fun h=>(List.cons.inj h).2,fun h=>by rw [e,h]⟩;rw [decide_eq_decide.2 q]
   ·have q:¬(a[k]::a.drop (k+1)=b[k]::b.drop (k+1)):=fun h=>e (List.cons.inj h).1
    rw [if_neg e,decide_eq_false q]
  grind
theorem y14 (c d:Cf)(v:Int)(f:c.fBindings.length<=1000000)(b:d.fBindings.length<=1000000):Un N0 c d v=some (decide (ofV c v=ofV d v)):=by
 have h1:=y4n c v;unfold Un;rw [y2q c v f,y2q d v b,A3,A3,aB,aB,Ah,A5];by_cases h:(ofV c v).length=(ofV d v).length
 ·rw [if_pos (by omega)];have:=ze3 (ofV c v) (ofV d v) h (by omega) N0 0 (aC _) (by unfold N0;omega);simpa using this
 ·rw [if_neg (by omega)];have:ofV c v≠ofV d v:=fun e=>h (by rw [e])
  simp [this]
theorem zmb (rs:List (List Bool))(c d:Cf)(q:c.fBindings.length<=1000000)(p:d.fBindings.length<=1000000)(o:c.fState=(s:Int)){r:List Bool}(f:rs[s]? = some r)(j:r.length=16) :
  ∀ (m k:Nat),k<=16->16<m+k->∃ b:Bool,Gi N0 d c rs (some true) m (k:Int)=some b/\(b=true ↔ ∀ v:Nat,k<=v->v<16->MB rs s v->ofV c (v:Int)=ofV d (v:Int))
 |0,k,h1,x=>by omega
 |m+1,k,h1,x=>by
  have g:=(List.getElem?_eq_some_iff.1 f).1;have i:=(List.getElem?_eq_some_iff.1 f).2;unfold Gi;rw [A5,Ay,Al];by_cases h:k<16
  ·rw [if_pos (by omega),o,A9 g,i,A9 (by omega:k<r.length),y14 c d _ q p,A3];unfold Km;obtain ⟨b,u,y⟩:=zmb rs c d q p o f j m (k+1) (by omega) (by omega);have w:MB rs s k ↔ r[k]=true:=⟨fun ⟨l,B,A⟩=>by grind,fun e=>⟨r,f,by simp_all⟩⟩;rw [Ad k (by omega),Ap,Ah,A5,u];cases z:r[k] with
   |false =>
    rw [Ap];grind
   |true =>
    rw [Ao];grind
  ·rw [if_neg (by omega)];grind
theorem zmc (rs:List (List Bool))(c d:Cf)(f:c.fStarts.length=d.fStarts.length)(g:c.fStarts.length<=1000000)(K:Option Bool):∀ (m k:Nat),k<=c.fStarts.length->c.fStarts.length<m+k->I7 N0 d c rs K m (k:Int)=if cvL (c.fStarts.drop k) (d.fStarts.drop k)=true then K else some false
 |0,k,h1,i=>by omega
 |m+1,k,h1,i=>by
  unfold I7;rw [aB,A5,Ay,Al];by_cases h:k<c.fStarts.length
  ·have b:k<d.fStarts.length:=by omega
   rw [if_pos (by omega),A9 h,A9 b,A9 h,A9 b,aA h,aA b,Ah,A5];unfold Kl;rw [Ad k (by omega),zmc rs c d f g K m (k+1) (by omega) (by omega),Ao,A5];have e:cvL (c.fStarts[k]::c.fStarts.drop (k+1)) (d.fStarts[k]::d.fStarts.drop (k+1))=(cvS c.fStarts[k] d.fStarts[k] && cvL (c.fStarts.drop (k+1)) (d.fStarts.drop (k+1))):=rfl;rw [e];unfold cvS;grind
  ·rw [if_neg (by omega),aG (by omega),aG (by omega)];simp [cvL]
theorem y2j {α:Type}{R:α->α->Prop}(c:∀ a b,R a b->¬R b a):∀ {l m:List α},l.Pairwise R->m.Pairwise R->(∀ x,x∈l ↔ x∈m)->l=m
 |[],m,_,_,h=>by
  cases m with
  |nil=>rfl
  |cons b m=>exact absurd ((h b).2 (by simp)) (by simp)
 |a::l,[],_,_,h=>absurd ((h a).1 (by simp)) (by simp)
 |a::l,b::m,h1,d,h=>by
  obtain ⟨o,i⟩:=pairwise_cons.1 h1;obtain ⟨j,g⟩:=pairwise_cons.1 d;have e:a=b:=by
   rcases aM.1 ((h a).1 (by simp)) with e|e
   ·exact e
   ·rcases aM.1 ((h b).2 (by simp)) with f|f
    all_goals grind
  subst e;have:l=m:=y2j c i g (fun x=>by
   grind)
  rw [this]
theorem y66 (G:AOk a){c d:Cf}(h1:c.fBindings.Pairwise (fun x y=>rCmp x.fRef y.fRef<0))(E:d.fBindings.Pairwise (fun x y=>rCmp x.fRef y.fRef<0))(g:∀ b∈c.fBindings,0<=b.fVar/\b.fVar<16)(A:∀ b∈d.fBindings,0<=b.fVar/\b.fVar<16){m:Mp}(hm:Ee m) :
  rdB m c.fBindings=rdB m d.fBindings ↔ ∀ v:Nat,v<16->has m (v:Int)->ofV c (v:Int)=ofV d (v:Int):=by
 have B:∀ (b:Bd),(mlk m b.fVar).getD false=true ↔ has m b.fVar:=fun b=>ziy hm _
 have C:∀ (e:Cf) (v:Int),has m v->ofV e v=((rdB m e.fBindings).filter (fun b=>decide (b.fVar=v))).map (·.fRef):=fun e v g=>by
  unfold ofV rdB;rw [filter_filter];grind
 constructor
 ·simp_all
 ·intro h;have f:∀ (c d:Cf),(∀ b∈c.fBindings,0<=b.fVar/\b.fVar<16)->(∀ v:Nat,v<16->has m (v:Int)->ofV c (v:Int)=ofV d (v:Int))->∀ x,x∈rdB m c.fBindings->x∈rdB m d.fBindings:=fun c d g h x z=>by
   obtain ⟨p,o⟩:=aK.1 z;have D:=g x p;have r:=(B x).1 o;have e:=h x.fVar.toNat (by omega) (by grind);rw [Int.toNat_of_nonneg D.1] at e;have:x.fRef∈ofV c x.fVar:=mem_map.2 ⟨x,aK.2 ⟨p,by simp⟩,rfl⟩;rw [e] at this;obtain ⟨y,w,j⟩:=mem_map.1 this;obtain ⟨u,i⟩:=aK.1 w;have i:y.fVar=x.fVar:=by simpa using i
   have:y=x:=by
    obtain ⟨yv,yr⟩:=y;obtain ⟨xv,xr⟩:=x;simp only at j i;rw [j,i]
   subst this;exact aK.2 ⟨u,o⟩
  refine y2j (R:=fun x y=>rCmp x.fRef y.fRef<0) (fun x y q F=>?_) (h1.sublist filter_sublist) (E.sublist filter_sublist) (fun x=>⟨f c d g h x,f d c A (fun v g r=>(h v g r).symm) x⟩);have:=Ju.neg x.fRef y.fRef;omega
structure CR (a:Aut) (c:Cf):Prop where
 cs:CS (Az a) c
 asc:c.fBindings.Pairwise (fun x y=>rCmp x.fRef y.fRef<0)
 var:∀ b∈c.fBindings,0<=b.fVar/\b.fVar<16
theorem Gd57.cr (h:GS a l){i:Nat}(hi:i<=12){c:Cf}(d:Gd57 a l i c):CR a c:=⟨d.cs h hi,d.ci.asc,fun b e=>by
 have h1:=(d.cb.bd b e).1;have f:=h.ok.vars;omega⟩
structure RsOk (a:Aut) (rs:List (List Bool)):Prop where
 sh:ShB a.fStates.length rs
 rd:∀ s y:Nat,MB rs s y ↔ y<16/\Rd a s (y:Int)
theorem ze2 (J:AOk a)(q:RsOk a rs){c d:Cf}(j:CR a c)(A:CR a d):Lv N0 rs c d=some (cov (Az a) c d):=by
 have G:=j.cs.st;have z:=j.cs.lb;have y:=A.cs.lb;have x:=j.cs.ls;have I:=(O6 a).1.len;obtain ⟨s,C⟩:∃ s:Nat,c.fState=(s:Int):=⟨c.fState.toNat,by omega⟩;have m:s<a.fStates.length:=by omega
 obtain ⟨r,p,o⟩:=q.sh.at m;unfold Lv cov;rw [Ay,Al,Ah,A5];unfold Ko;rw [Ao,Ah,aB,aB,A5];by_cases h:c.fState=d.fState
 ·rw [if_pos h,decide_eq_true h,Bool.true_and];by_cases D:c.fStarts.length=d.fStarts.length
  ·rw [if_pos (by omega)];have g:=zmc rs c d D x (Gi N0 d c rs (some true) N0 0) N0 0 (aC _) (by unfold N0;omega);rw [aL,aL] at g;refine g.trans ?_;cases K:cvL c.fStarts d.fStarts with
   |false=>simp
   |true =>
    rw [if_pos rfl,Bool.true_and];obtain ⟨b,F,E⟩:=zmb rs c d z y C p o N0 0 (aC _) (by unfold N0;omega);refine Eq.trans F (congrArg some ?_);have H:(Az a).getD s []=(Az a)[s]'(by omega):=by rw [getD_eq_getElem?_getD,aE (by omega)];rfl
    have w:=(O6 a).1.map _ (aD (by omega:s<(Az a).length));have i:∀ v:Nat,has ((Az a)[s]'(by omega)) (v:Int) ↔ Rd a s (v:Int):=fun v=>by
     have f:=(O6 a).2 s (v:Int);unfold hasO at f;simp_all
    have key:=y66 J j.asc A.asc j.var A.var w;have e:rdC (Az a) c=rdC (Az a) d ↔ b=true:=by
     unfold rdC;rw [<-h,C,aJ,H,key,E];exact ⟨fun u v _ f B=>u v f ((i v).2 ((q.rd s v).1 B).2),fun u v f B=>u v (aC _) f ((q.rd s v).2 ⟨f,(i v).1 B⟩)⟩
    grind
  ·rw [if_neg (by omega),y39 D];rfl
 simp_all
theorem zdy (q:AOk a)(p:RsOk a rs){l:List Cf}(w:l.length<=1000000)(o:∀ c∈l,CR a c)(i:Nat)(hi:i<l.length)(out:List Cf)(K:Bool->Option (List Cf)) :
  ∀ (m k:Nat) (b:Bool),k<=l.length->l.length<m+k->∃ y:Bool,Fm N0 l rs ((i:Int),out) K m (b,(k:Int))=K y/\(y=true ↔ b=true/\∀ j,k<=j->j<l.length->bet (Az a) l j i=false)
 |0,k,b,h1,r=>by omega
 |m+1,k,b,h1,r=>by
  unfold Fm;simp only [aB,A5,Ah,Al];by_cases h:k<l.length
  ·have f:=o _ (aD h);have g:=o _ (aD hi);have x:bet (Az a) l k i=(decide (k≠i) && (cov (Az a) l[k] l[i] && (decide (k<i) || !cov (Az a) l[i] l[k]))):=by unfold bet;rw [Ta h,Ta hi]
   obtain ⟨v,D,C⟩:=zdy q p w o i hi out K m (k+1) false (by omega) (by omega);obtain ⟨z,B,A⟩:=zdy q p w o i hi out K m (k+1) b (by omega) (by omega);have u:v=false:=by
    cases v with
    |false=>rfl
    |true=>have:=(C.1 rfl).1;cases this
   subst u;have yes:bet (Az a) l k i=true->((false:Bool)=true ↔ b=true/\∀ j,k<=j->j<l.length->bet (Az a) l j i=false):=fun G=>⟨(fun d=>by cases d),fun d=>by simp_all⟩
   have no:bet (Az a) l k i=false->(z=true ↔ b=true/\∀ j,k<=j->j<l.length->bet (Az a) l j i=false):=fun G=>A.trans (and_congr_right fun _=>⟨fun d j h1 r=>by
    grind,fun d j h1 r=>d j (by omega) r⟩)
   rw [if_pos (by omega),A9 h,A9 hi,A9 hi,A9 h,ze2 q p f g,ze2 q p g f,A3,A3,Ad k (by omega),D,B];by_cases e:k=i
   ·grind
   ·rw [if_neg (by omega)];cases F:cov (Az a) l[k] l[i]
    ·rw [Ap];grind
    ·rw [Ao];by_cases H:k<i
     ·simp_all
     ·rw [if_neg (by omega)];cases E:cov (Az a) l[i] l[k]
      ·rw [Ap];simp_all
      ·rw [Ao];grind
  ·rw [if_neg (by omega)];grind
theorem zdz (q:AOk a)(o:RsOk a rs){l:List Cf}(p:l.length<=1000000)(g:∀ c∈l,CR a c)(K:List Cf->Option (List Cf)) :
  ∀ (m i:Nat) (out:List Cf),i<=l.length->l.length<m+i->out.length<=i->Gh N0 l rs K m ((i:Int),out)=K (out++(((aO l.length).drop i).filter (Ht (Az a) l)).map (fun i=>l.getD i cfD))
 |0,i,out,h1,x,_=>by omega
 |m+1,i,out,h1,x,z=>by
  unfold Gh;simp only [aB,A5,Al];by_cases h:i<l.length
  ·rw [if_pos (by omega)];obtain ⟨y,u,r⟩:=zdy q o p g i h out (fun k2_1_0y=>cnd (k2_1_0y) (idx l (i:Int) fun e=>app out [e] 56 fun d=>(Gh N0 l rs K m) ((aF .i64 ((i:Int)+1)),d)) <| (Gh N0 l rs K m) ((aF .i64 ((i:Int)+1)),out)) N0 0 true (aC _) (by unfold N0;omega);refine Eq.trans u ?_;have b:(aO l.length).drop i=i::(aO l.length).drop (i+1):=by
    rw [aA (by simpa using h)];simp
   rw [b,filter_cons,Ad i (by omega)];have b:Ht (Az a) l i=true ↔ y=true:=by
    rw [r];unfold Ht;rw [Bool.not_eq_true',any_eq_false];exact ⟨fun v=>⟨rfl,fun j _ w=>by simp_all⟩,fun v j w=>by simp_all⟩
   cases f:y with
   |true =>
    rw [Ao,if_pos (b.2 f),A9 h,Bu (by simp;omega) (by omega),zdz q o p g K m (i+1) _ (by omega) (by omega) (by simp;omega),map_cons,Ta h];simp
   |false =>
    have:¬Ht (Az a) l i=true:=fun h=>by rw [b.1 h] at f;cases f
    rw [Ap,if_neg this,zdz q o p g K m (i+1) _ (by omega) (by omega) (by omega)]
  ·rw [if_neg (by omega),aG (by simp;omega)];simp
theorem y6j (f:AOk a)(d:RsOk a rs){l:List Cf}(e:l.length<=1000000)(b:∀ c∈l,CR a c):Qv N0 rs l=some (redP (Az a) l):=by
 unfold Qv;have:=zdz f d e b (fun y=>some y) N0 0 [] (aC _) (by unfold N0;omega) (by simp);simpa [redP,redI] using this
end Go.Proofs.YtidhlpjgifoneaaGreat
