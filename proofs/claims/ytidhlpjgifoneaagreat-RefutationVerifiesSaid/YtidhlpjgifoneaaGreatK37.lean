/- Layer 57, plainly. -/
import Derived.Test.YtidhlpjgifoneaaGreatK36
set_option linter.unusedVariables false
set_option linter.unusedSimpArgs false
namespace Go.Proofs.YtidhlpjgifoneaaGreat
open Go.RowKit List
open List renaming drop_eq_getElem_cons->aA,length_map->aB,getElem_mem->aE,getElem?_eq_getElem->aF,getD_eq_getElem?_getD->aG,mem_filter->aH,mem_of_getElem?->aJ,drop_eq_nil_of_le->aL,mem_flatMap->aN,drop_zero->aP,getElem?_eq_none->aQ,filter_cons->aR,any_eq_true->aS,mem_cons->aT,mem_map->aV
open Nat renaming zero_le->aC
open Bool renaming and_eq_true->aD,true_and->aU
open Int renaming toNat_natCast->aK
open IntKind renaming wrap->aM
section
variable {α β:Type}
theorem y6o (i:Nat)(x:Option β):arz i x=x:=by unfold arz;rfl
def idr (rs:List α):Ars α:=((range rs.length).map some,rs)
theorem y4d {rs:List α}{v:α}(h:rs.length<=1000000)(c:Ars α->Option β):aap (idr rs) v 24 c=c (idr (rs++[v])):=by
 unfold aap idr;rw [if_pos ⟨by simp;omega,by simp;omega⟩];simp [range_succ]
variable {k:Nat}
theorem zqc {rs:List α}(h:k<rs.length)(c:Nat->Option β):aob (idr rs) k c=c k:=by
 have:(idr rs).1[k]? = some (some k):=by simp [idr,h]
 unfold aob;rw [this]
variable {rs:List (List α)}{l:List α}
theorem zjr {j:Nat}(e:rs[j]? = some l)(b:k<l.length)(c:Nat->Option β):aix (idr rs) j (k:Int) c=c k:=by
 unfold aix;rw [show (idr rs).2=rs from rfl,e];simp [b]
theorem zyg {j:Nat}{v:α}(e:rs[j]? = some l)(b:l[k]? = some v)(c:α->Option β):ald (idr rs) j k c=c v:=by
 unfold ald;rw [show (idr rs).2=rs from rfl,e];simp only [b]
theorem zyc {j:Nat}{v:α}(e:rs[j]? = some l)(b:k<l.length)(c:Ars (List α)->Option β):asr (idr rs) j k v c=c (idr (rs.set j (l.set k v))):=by
 unfold asr;rw [show (idr rs).2=rs from rfl,e];simp [b,idr]
theorem y3t (i:Nat)(rs:List α)(x:Option β):frq i (idr rs) x=x:=by
 unfold frq idr;simp
theorem y16 (rs:List (List α)):aval (idr rs)=rs:=by
 unfold aval idr;apply ext_getElem;all_goals simp_all
end
theorem zv2 (n:Nat)(f:Exn->List Bool->Option (List Bool))(e:Exn)(K:List Bool->Option (List Bool)):∀ m v,P6 n f e K m v=Dn n f e K m v
 |0,v=>rfl
 |m+1,v=>by unfold P6 Dn;simp only [zv2 n f e K m]
theorem zv0 (n:Nat)(f:Exn->List Bool->Option (List Bool))(e:Exn)(K:List Bool->Option (List Bool)):∀ m v,P5 n f e K m v=Dn n f e K m v
 |0,v=>rfl
 |m+1,v=>by unfold P5 Dn;simp only [zv0 n f e K m]
theorem zuy (n:Nat)(f:Exn->List Bool->Option (List Bool))(e:Exn)(K:List Bool->Option (List Bool)):∀ m v,P4 n f e K m v=Dn n f e K m v
 |0,v=>rfl
 |m+1,v=>by unfold P4 Dn;simp only [zuy n f e K m]
variable {α:Type}
theorem zih {l:List α}{k:Nat}(h:k<l.length)(P:α->Prop):(∃ x∈l.drop k,P x) ↔ P l[k]\/∃ x∈l.drop (k+1),P x:=by
 rw [aA h];grind
def MkB (P:Nat->Prop)(t b:List Bool):Prop:=b.length=16/\∀ i,b[i]? = some true ↔ t[i]? = some true\/(i<16/\P i)
variable {P:Nat->Prop}{t:List Bool}
theorem MkB.comp {Q R:Nat->Prop}{e b:List Bool}(h:MkB P t e)(k:MkB Q e b)(f:∀ i,i<16->(R i ↔ P i\/Q i)):MkB R t b:=⟨k.1,fun i=>by
 rw [k.2,h.2];have:=f i;grind⟩
theorem MkB.nil (h:t.length=16)(b:∀ i,i<16->¬P i):MkB P t t:=⟨h,fun i=>by
 have:=b i;grind⟩
theorem MkB.set {j:Nat}(h:t.length=16)(e:j<16)(b:∀ i,i<16->(P i ↔ i=j)):MkB P t (t.set j true):=⟨by simpa using h,fun i=>by
 grind⟩
theorem MkB.congr {Q:Nat->Prop}{b:List Bool}(h:MkB P t b)(e:∀ i,i<16->(P i ↔ Q i)):MkB Q t b:=⟨h.1,fun i=>by
 rw [h.2];have:=e i;grind⟩
theorem zla (n:Nat)(f:Exn->List Bool->Option (List Bool))(l:List (Nat×Exn))(e:Exn)(o:e.fArgs=l.map (fun p=>Av p.2))(x:l.length<=4000000)(j:∀ p∈l,∀ t:List Bool,t.length=16->∃ b,f p.2 t=some b/\MkB (fun i=>Occ i p.2) t b) :
  ∀ (m k:Nat) (t:List Bool),k<=l.length->l.length<m+k->t.length=16->∃ b,Dn n f e (fun y=>some y) m ((k:Int),t)=some b/\MkB (fun i=>∃ p∈l.drop k,Occ i p.2) t b
 |0,k,t,h1,z,_=>by omega
 |m+1,k,t,h1,z,q=>by
  unfold Dn;simp only [o,aB,A5];by_cases h:k<l.length
  ·rw [if_pos (by omega),G8 h];obtain ⟨r,w,g⟩:=j l[k] (aE h) t q;rw [w,Ce,Ae k (by omega)];obtain ⟨b,v,u⟩:=zla n f l e o x j m (k+1) r (by omega) (by omega) g.1;exact ⟨b,v,g.comp u (fun i _=>zih h _)⟩
  ·rw [if_neg (by omega)];exact ⟨t,rfl,MkB.nil q (fun i _ ⟨p,A,_⟩=>by grind)⟩
theorem y5b:∀ (s:Nat) (e:Exn),ETr s e->s<=4000000->∀ n,s+1<n->∀ t:List Bool,t.length=16->∃ f,E2 n e t=some f/\MkB (fun i=>Occ i e) t f:=by
 intro s
 induction s using Nat.strongRecOn with
 |ind s IH =>
  intro e w z n A t b;cases w with
  |mk l e h u =>
   obtain ⟨g,rfl⟩:∃ g,n=g + 1:=⟨n-1,by omega⟩;have B:=Sm (l:=l) (fun p j=>(h p j).pos);have go:∀ t:List Bool,t.length=16->∃ f,Dn g (E2 g) e (fun y=>some y) g (0,t)=some f/\MkB (fun i=>∃ p∈l,Occ i p.2) t f:=fun t b=>zla g (E2 g) l e u (by omega) (fun p j t b=>by
    have:=Jj j;exact IH p.1 (by omega) p.2 (h p j) (by omega) g (by omega) t b) g 0 t (by omega) (by omega) b
   simp only [E2,zv2,zv0,zuy];rw [zvo,A3];have no:(∀ i,i<16->¬own1 i e)->∃ f,Dn g (E2 g) e (fun y=>some y) g (0,t)=some f/\MkB (fun i=>Occ i e) t f:=fun x=>by
    obtain ⟨f,o,m⟩:=go t b;refine ⟨f,o,m.congr (fun i hi=>?_)⟩;rw [zpa u];simp_all
   simp only [A5,aB,b];by_cases r:usV e.fOp=true;rotate_left
   ·have q:usV e.fOp=false:=by cases h:usV e.fOp<;>simp_all
    rw [q,Aq];exact no (fun i _ h=>r h.1)
   rw [r,Ap];by_cases v:0<=e.fVar;rotate_left
   ·rw [if_neg v];exact no (fun i _ h=>by have:=h.2;omega)
   rw [if_pos v];by_cases h1:e.fVar<16;rotate_left
   ·rw [if_neg (by omega)];exact no (fun i hi h=>by have:=h.2;omega)
   rw [if_pos (by omega),zpb v (by omega),Jp (by omega)];obtain ⟨f,o,m⟩:=go (t.set e.fVar.toNat true) (by simpa using b);refine ⟨f,o,(MkB.set (P:=fun i=>own1 i e) b (by omega) (fun i hi=>⟨fun h=>by have:=h.2;omega,fun h=>⟨r,by omega⟩⟩)).comp m (fun i hi=>?_)⟩;rw [zpa u]
def filB (t:List Bool)(k:Nat):List Int:=(t.zipIdx.drop k).filterMap (fun p=>if p.1 then some (p.2:Int) else none)
theorem zxe (t:List Bool)(k:Nat)(h:k<t.length):filB t k=(if t[k]=true then [(k:Int)] else [])++filB t (k+1):=by
 unfold filB;have b:k<t.zipIdx.length:=by rw [length_zipIdx];exact h
 rw [aA b,filterMap_cons];grind
theorem y0m (t:List Bool)(v:Int):v∈filB t 0 ↔ ∃ i:Nat,v=(i:Int)/\t[i]? = some true:=by
 unfold filB;rw [aP,mem_filterMap];constructor
 ·grind
 ·rintro ⟨i,rfl,h⟩;exact ⟨(true,i),List.mem_zipIdx_iff_getElem?.2 h,by simp⟩
theorem zbg (n:Nat)(t:List Bool)(b:t.length=16)(K:List Int->Option (List Int)):∀ (m k:Nat) (out:List Int),k<=16->16<m+k->out.length<=k->Hq n t K m ((k:Int),out)=K (out++filB t k)
 |0,k,out,h1,e,_=>by omega
 |m+1,k,out,h1,e,g=>by
  unfold Hq;simp only [A5,aB,b];by_cases h:k<16
  ·rw [if_pos (by omega),Am,Ct (by omega),D7 (by omega),zxe t k (by omega),Ae k (by omega)];cases f:t[k] with
   |true =>
    rw [Ap,C1 (by simp;omega) (by omega),zbg n t b K m (k+1) _ (by omega) (by omega) (by simp;omega)];simp
   |false =>
    rw [Aq,zbg n t b K m (k+1) _ (by omega) (by omega) (by omega)];simp
  ·rw [if_neg (by omega)];unfold filB;rw [aL (by rw [length_zipIdx];omega)];simp
theorem zl6 {e:Exn}(j:WfE e):∃ vs:List Int,Te N0 e=some vs/\vs.length<=16/\∀ v,v∈vs ↔ OccV v e:=by
 obtain ⟨z,i,m⟩:=j;obtain ⟨t,h,g,o⟩:=y5b z e m i N0 (by unfold N0;omega) (replicate 16 false) (by simp);refine ⟨filB t 0,?_,?_,fun v=>?_⟩
 ·unfold Te;have hm:=y1r (n:=16) (bytes:=1) (by omega) (by omega) false (fun f=>bndM 9 (E2 N0 e f) fun b=>Hq N0 b (fun k1_0_0y=>some k1_0_0y) N0 (0,[]));refine Eq.trans hm ?_;rw [h,Ce];have:=zbg N0 t g (fun y=>some y) N0 0 [] (by omega) (by unfold N0;omega) (by simp);simpa using this
 ·unfold filB;refine Nat.le_trans (length_filterMap_le _ _) ?_;simp_all
 ·rw [y0m];unfold OccV;grind
theorem zdg (n:Nat)(vs:List Int)(p:vs.length<=16)(e:∀ v∈vs,0<=v/\v<16)(K:List Bool->Option (List Bool)):∀ (m k:Nat) (t:List Bool),k<=vs.length->vs.length<m+k->t.length=16->∃ b,P0 n vs K m ((k:Int),t)=K b/\MkB (fun i=>(i:Int)∈vs.drop k) t b
 |0,k,t,h1,r,_=>by omega
 |m+1,k,t,h1,r,g=>by
  unfold P0;simp only [aB,A5];by_cases h:k<vs.length
  ·have q:=e _ (aE h);rw [if_pos (by omega),A9 h,zpb q.1 (by omega),Jp (by omega),Ae k (by omega)];have f:MkB (fun i=>(i:Int)=vs[k]) t (t.set vs[k].toNat true):=MkB.set g (by omega) (fun i hi=>by omega);obtain ⟨b,o,j⟩:=zdg n vs p e K m (k+1) _ (by omega) (by omega) f.1;exact ⟨b,o,f.comp j (fun i _=>by rw [aA h,aT])⟩
  ·rw [if_neg (by omega)];exact ⟨t,rfl,MkB.nil g (fun i _ u=>by grind)⟩
theorem zhw {e:Exn}(m:WfE e)(h:t.length=16):∃ b,Lk N0 e t=some b/\MkB (fun i=>OccV (i:Int) e) t b:=by
 obtain ⟨vs,j,g,f⟩:=zl6 m;unfold Lk;rw [j,A3];obtain ⟨b,q,p⟩:=zdg N0 vs g (fun v o=>zgs ((f v).1 o)) (fun y=>some y) N0 0 t (aC _) (by unfold N0;omega) h;simp_all
theorem zl9 {a:Aut}(b:Stt)(s:Int)(w:b.fGuards.length<=2000000)(j:∀ g∈b.fGuards,WfE g.fCond)(K:List Bool->Option (List Bool)):∀ (m k:Nat) (t:List Bool),k<=b.fGuards.length->b.fGuards.length<m+k->t.length=16->∃ e,Lj N0 s a b K m ((k:Int),t)=K e/\MkB (fun i=>∃ g∈b.fGuards.drop k,OccV (i:Int) g.fCond) t e
 |0,k,t,h1,x,_=>by omega
 |m+1,k,t,h1,x,o=>by
  unfold Lj;simp only [aB,A5];by_cases h:k<b.fGuards.length
  ·obtain ⟨q,v,f⟩:=zhw (j _ (aE h)) o;rw [if_pos (by omega),A9 h,v,Ce,Ae k (by omega)];obtain ⟨e,u,r⟩:=zl9 (a:=a) b s w j K m (k+1) q (by omega) (by omega) f.1;exact ⟨e,u,f.comp r (fun i _=>zih h _)⟩
  ·rw [if_neg (by omega)];exact ⟨t,rfl,MkB.nil o (fun i _ ⟨p,y,_⟩=>by grind)⟩
theorem zl7 (es:List Ed)(j:Nat)(g:j<es.length)(ys:List Exn)(f:es[j].fChecks=ys.map Av)(z:ys.length<=2000000)(q:∀ e∈ys,WfE e)(w:List Bool)(K:List Bool->Option (List Bool)):∀ (m k:Nat) (t:List Bool),k<=ys.length->ys.length<m+k->t.length=16->∃ b,Qd N0 (es,(j:Int),w) K m ((k:Int),t)=K b/\MkB (fun i=>∃ e∈ys.drop k,OccV (i:Int) e) t b
 |0,k,t,h1,A,_=>by omega
 |m+1,k,t,h1,A,r=>by
  unfold Qd;rw [A9 g];simp only [f,aB,A5];by_cases h:k<ys.length
  ·obtain ⟨u,y,o⟩:=zhw (q _ (aE h)) r;rw [if_pos (by omega),A9 g,f,y1s h,y,Ce,Ae k (by omega)];obtain ⟨b,x,v⟩:=zl7 es j g ys f z q w K m (k+1) u (by omega) (by omega) o.1;exact ⟨b,x,o.comp v (fun i _=>zih h _)⟩
  ·rw [if_neg (by omega)];exact ⟨t,rfl,MkB.nil r (fun i _ ⟨p,B,_⟩=>by grind)⟩
theorem zl8 (es:List Ed)(B:es.length<=1100000)(g:∀ x∈es,WfX x)(e:∀ x∈es,x.fChecks.length<=1100000)(K:List Bool->Option (List Bool)):∀ (m k:Nat) (t:List Bool),k<=es.length->es.length<m+k->t.length=16->∃ f,Gx N0 K m (es,(k:Int),t)=K f/\MkB (fun i=>∃ x∈es.drop k,OwnX x (i:Int)) t f
 |0,k,t,h1,C,_=>by omega
 |m+1,k,t,h1,C,q=>by
  unfold Gx;simp only [aB,A5];by_cases h:k<es.length
  ·have hm:=aE h;obtain ⟨r,D⟩:=zcm (g _ hm);have b:=e _ hm;obtain ⟨v,A,o⟩:=zhw (g _ hm).cond q;rw [if_pos (by omega),A9 h,A,Ce];obtain ⟨u,w,j⟩:=zl7 es k h (chE es[k]) r (by rw [r] at b;simp at b;omega) D t (fun k3_2_0y=>(Gx N0 K m) (es,(aM .i64 ((k:Int)+1)),k3_2_0y)) N0 0 v (aC _) (by grind) o.1;obtain ⟨f,z,y⟩:=zl8 es B g e K m (k+1) u (by omega) (by omega) j.1;refine ⟨f,w.trans ?_,(o.comp (R:=fun i=>OwnX es[k] (i:Int)) j (fun i _=>?_)).comp y (fun i _=>zih h _)⟩
   ·rw [Ae k (by omega)];exact z
   ·unfold OwnX;grind
  ·rw [if_neg (by omega)];exact ⟨t,rfl,MkB.nil q (fun i _ ⟨p,E,_⟩=>by grind)⟩
variable {a:Aut}{s:Nat}
theorem y5a (p:WfA a)(j:∀ x∈a.fEdges,x.fChecks.length<=1100000)(h:a.fEdges.length<=1000000)(q:s<a.fStates.length):∃ t:List Bool,Ul N0 a (s:Int)=some t/\t.length=16/\∀ i:Nat,t[i]? = some true ↔ i<16/\OwnV a s (i:Int):=by
 have g:=p.st _ (aE q);have e:∀ x,x∈Dd a (s:Int) ↔ x∈a.fEdges/\x.fFrom=(s:Int):=fun x=>by unfold Dd;simp
 have B:(Dd a (s:Int)).length<=a.fEdges.length:=by unfold Dd;exact length_filter_le _ _
 unfold Ul;have hm:=y1r (n:=16) (bytes:=1) (by omega) (by omega) false (fun u=>idx a.fStates (s:Int) fun r=>Lj N0 (s:Int) a r (fun k1_0_0y=>bnd (Ix N0 a (s:Int)) fun b=>Gx N0 (fun k2_1_0y=>some k2_1_0y) N0 (b,0,k1_0_0y)) N0 (0,u));obtain ⟨w,A,o⟩:=zl9 (a:=a) a.fStates[s] (s:Int) (by omega) g.2 (fun k1_0_0y=>bnd (Ix N0 a (s:Int)) fun b=>Gx N0 (fun k2_1_0y=>some k2_1_0y) N0 (b,0,k1_0_0y)) N0 0 (replicate 16 false) (aC _) (by unfold N0;omega) (by simp);obtain ⟨v,z,m⟩:=zl8 (Dd a (s:Int)) (by omega) (fun x f=>p.ed x ((e x).1 f).1) (fun x f=>j x ((e x).1 f).1) (fun y=>some y) N0 0 w (aC _) (by unfold N0;omega) o.1;refine ⟨v,?_,m.1,fun i=>?_⟩
 ·refine hm.trans ?_;rw [A9 q];refine A.trans ?_;rw [y1l _ _ h,A3];exact z
 ·rw [m.2,o.2,getElem?_replicate];unfold OwnV OwnG;grind
def MB (rs:List (List Bool))(s x:Nat):Prop:=∃ l,rs[s]? = some l/\l[x]? = some true
structure ShB (n:Nat) (rs:List (List Bool)):Prop where
 len:rs.length=n
 row:∀ l∈rs,l.length=16
variable {n:Nat}{rs:List (List Bool)}
theorem ShB.at (h:ShB n rs)(b:s<n):∃ l,rs[s]? = some l/\l.length=16:=⟨rs[s]'(by rw [h.len];exact b),aF (by rw [h.len];exact b),h.row _ (aE _)⟩
theorem ShB.set (h:ShB n rs){x:Nat}{l:List Bool}{b:Bool}(f:rs[s]? = some l)(g:x<16):ShB n (rs.set s (l.set x b)):=⟨by rw [length_set];exact h.len,fun q e=>by
 rcases mem_or_eq_of_mem_set e with e|e
 ·exact h.row q e
 ·rw [e,length_set];exact h.row l (aJ f)⟩
theorem y60 (h:ShB n rs){x:Nat}{l:List Bool}{b:Bool}(f:rs[s]? = some l)(m:x<16)(o:MB rs s x->b=true)(t y:Nat):MB (rs.set s (l.set x b)) t y ↔ MB rs t y\/(t=s/\y=x/\b=true):=by
 have i:s<rs.length:=(List.getElem?_eq_some_iff.1 f).1;have j:=h.row l (aJ f);unfold MB at *;by_cases e:t=s
 ·subst e;rw [getElem?_set_self i,f];by_cases g:y=x
  ·simp_all
  grind
 grind
theorem zg9 (B A:Int×Ars (List Bool))(x:Ed){f t:Nat}(G:x.fFrom=(f:Int))(j:f<n)(F:x.fTo=(t:Int))(p:t<n)(K:Ars (List Bool)->Option (List (List Bool))) :
  ∀ (m k:Nat) (rs:List (List Bool)),k<=16->16<m+k->ShB n rs->∃ g,Ef N0 a n B A x K m ((k:Int),idr rs)=K (idr g)/\ShB n g/\∀ s y,MB g s y ↔ MB rs s y\/(s=f/\k<=y/\y<16/\MB rs t y)
 |0,k,rs,h1,M,_=>by omega
 |m+1,k,rs,h1,M,r=>by
  unfold Ef;rw [Ax,Am,A5,if_pos (by omega)];unfold Hx;rw [A5];by_cases h:k<16
  ·obtain ⟨lf,i,E⟩:=r.at j;obtain ⟨lt,q,D⟩:=r.at p;have w:lf[k]? = some lf[k]:=aF (by omega);have v:lt[k]? = some lt[k]:=aF (by omega);have step:∀ b:Bool,b=(lf[k] || lt[k])->∃ g,Ef N0 a n B A x K m (((k+1:Nat):Int),idr (rs.set f (lf.set k b)))=K (idr g)/\ShB n g/\∀ s y,MB g s y ↔ MB rs s y\/(s=f/\k<=y/\y<16/\MB rs t y):=fun b z=>by
    have u:MB rs f k ↔ lf[k]=true:=⟨fun ⟨l,O,N⟩=>by grind,fun e=>⟨lf,i,by rw [w,e]⟩⟩;have C:MB rs t k ↔ lt[k]=true:=⟨fun ⟨l,O,N⟩=>by grind,fun e=>⟨lt,q,by rw [v,e]⟩⟩;have o:=y60 (b:=b) r i h (fun e=>by rw [z,u.1 e];rfl);have L:b=true ↔ MB rs f k\/MB rs t k:=by rw [z,u,C,Bool.or_eq_true]
    obtain ⟨g,J,I,H⟩:=zg9 B A x G j F p K m (k+1) _ (by omega) (by omega) (r.set (b:=b) i h);refine ⟨g,J,I,fun s y=>?_⟩;rw [H,o,o];grind
   rw [if_pos (by omega),Am,Dl (by omega) (by omega),G,aK,zqc (by rw [r.len];exact j),Dl (by omega) (by omega),zqc (by rw [r.len];exact j),zjr i (by omega),zyg i w,Ae k (by omega)];cases z:lf[k] with
   |true =>
    rw [Ap,zjr i (by omega),zyc i (by omega)];exact step true (by rw [z];rfl)
   |false =>
    rw [Aq,Dl (by omega) (by omega),F,aK,zqc (by rw [r.len];exact p),zjr q (by omega),zyg q v,zjr i (by omega),zyc i (by omega)];exact step _ (by rw [z];rfl)
  grind
theorem zoy (e b:Int×Ars (List Bool))(x:Ed)(g:x.fTo<0)(K:Ars (List Bool)->Option (List (List Bool)))(m:Nat)(hm:0<m)(v:Int×Ars (List Bool)):Ef N0 a n e b x K m v=K v.2:=by
 obtain ⟨m,rfl⟩:∃ f,m=f + 1:=⟨m-1,by omega⟩;unfold Ef;rw [Ax,Am,A5,if_neg (by omega)];unfold Hx;rw [Aq]
structure Ps (a:Aut) (es:List Ed) (rs rs':List (List Bool)):Prop where
 sh:ShB a.fStates.length rs'
 mono:∀ s y,MB rs s y->MB rs' s y
 snd:(∀ s y,MB rs s y->Rd a s (y:Int))->∀ s y,MB rs' s y->Rd a s (y:Int)
 mark:∀ x∈es,∀ f t y:Nat,x.fFrom=(f:Int)->x.fTo=(t:Int)->MB rs t y->MB rs' f y
theorem zga (L:AOk a)(F:a.fEdges.length<=1100000)(o:Int×Ars (List Bool))(K:Ars (List Bool)->Option (List (List Bool))) :
  ∀ (m k:Nat) (rs:List (List Bool)),k<=a.fEdges.length->a.fEdges.length<m+k->ShB a.fStates.length rs->∃ g,Gh N0 a a.fStates.length o K m ((k:Int),idr rs)=K (idr g)/\Ps a (a.fEdges.drop k) rs g
 |0,k,rs,h1,H,_=>by omega
 |m+1,k,rs,h1,H,B=>by
  unfold Gh;simp only [aB,A5];by_cases h:k<a.fEdges.length
  ·have j:=aE h;have q:=L.ed _ j;obtain ⟨f,J⟩:∃ f:Nat,a.fEdges[k].fFrom=(f:Int):=⟨a.fEdges[k].fFrom.toNat,by have:=q.frm;omega⟩;have G:f<a.fStates.length:=by have:=q.frm;omega
   rw [if_pos (by omega),A9 h];have one:∃ b,Ef N0 a a.fStates.length o ((k:Int),idr rs) a.fEdges[k] (fun k4_3_0y=>(Gh N0 a a.fStates.length o K m) ((aM .i64 ((k:Int)+1)),k4_3_0y)) N0 (0,idr rs)=Gh N0 a a.fStates.length o K m (((k+1:Nat):Int),idr b)/\Ps a [a.fEdges[k]] rs b:=by
    by_cases O:0<=a.fEdges[k].fTo
    ·obtain ⟨t,I⟩:∃ t:Nat,a.fEdges[k].fTo=(t:Int):=⟨a.fEdges[k].fTo.toNat,by omega⟩;have E:t<a.fStates.length:=by have:=q.tgt;omega
     obtain ⟨b,D,p,C⟩:=zg9 (a:=a) o ((k:Int),idr rs) a.fEdges[k] J G I E (fun k4_3_0y=>(Gh N0 a a.fStates.length o K m) ((aM .i64 ((k:Int)+1)),k4_3_0y)) N0 0 rs (by omega) (by unfold N0;omega) B;refine ⟨b,D.trans (by rw [Ae k (by omega)]),p,fun s y h=>(C s y).2 (Or.inl h),fun i s y h=>?_,fun x e w r y A z h=>?_⟩
     ·rcases (C s y).1 h with h|⟨rfl,_,_,h⟩
      ·exact i s y h
      ·exact .step _ j _ t _ J I (i t y h)
     ·rw [mem_singleton.1 e] at A z;have h1:w=f:=by omega
      have H:r=t:=by omega
      subst h1;subst H;refine (C _ y).2 (Or.inr ⟨rfl,aC _,?_,h⟩);obtain ⟨l,N,Q⟩:=h;have:=B.row l (aJ N);grind
    ·refine ⟨rs,?_,B,fun s y h=>h,fun i=>i,fun x e w r y A z h=>?_⟩
     ·rw [zoy _ _ _ (by omega) _ _ (by unfold N0;omega),Ae k (by omega)]
     grind
   obtain ⟨b,D,p⟩:=one;obtain ⟨g,M,u⟩:=zga L F o K m (k+1) b (by omega) (by omega) p.sh;refine ⟨g,D.trans M,u.sh,fun s y h=>u.mono s y (p.mono s y h),fun i=>u.snd (p.snd i),fun x e w r y A z v=>?_⟩;rw [aA h] at e;rcases aT.1 e with e|e
   ·exact u.mono _ _ (p.mark x (by rw [e];simp) w r y A z v)
   ·exact u.mark x e w r y A z (p.mono _ _ v)
  ·rw [if_neg (by omega)];exact ⟨rs,rfl,B,fun s y h=>h,fun i=>i,fun x e=>by grind⟩
open Classical in
noncomputable def cntB (n:Nat)(rs:List (List Bool))(y:Nat):Nat:=(range n).countP (fun s=>decide (MB rs s y))
structure RdI (a:Aut) (k:Nat) (rs:List (List Bool)):Prop where
 sh:ShB a.fStates.length rs
 own:∀ s y:Nat,y<16->OwnV a s (y:Int)->MB rs s y
 snd:∀ s y,MB rs s y->Rd a s (y:Int)
 all:∀ y:Nat,y<16->(∀ s,Rd a s (y:Int)->MB rs s y)\/k<=cntB a.fStates.length rs y
open Classical in
theorem RdI.round {k:Nat}{e:List (List Bool)}(D:AOk a)(h:RdI a k rs)(p:Ps a a.fEdges rs e):RdI a (k+1) e:=⟨p.sh,fun s y i m=>p.mono _ _ (h.own s y i m),p.snd h.snd,fun y i=>by
 rcases h.all y i with B|E
 ·exact Or.inl (fun s b=>p.mono _ _ (B s b))
 ·by_cases g:∀ x∈a.fEdges,∀ f t:Nat,x.fFrom=(f:Int)->x.fTo=(t:Int)->MB rs t y->MB rs f y
  ·refine Or.inl (fun s b=>p.mono _ _ ?_);generalize v:(y:Int)=z at b
   induction b with
   |own t x m=>subst v;exact h.own t y i m
   |step ed C t s x w b _ ih=>exact g ed C t s w b (ih v)
  ·refine Or.inr ?_;obtain ⟨x,j,f,t,u,r,h1,q⟩:∃ x∈a.fEdges,∃ f t:Nat,x.fFrom=(f:Int)/\x.fTo=(t:Int)/\MB rs t y/\¬MB rs f y:=Classical.byContradiction (fun A=>g (fun x j f t u r h1=>Classical.byContradiction (fun q=>A ⟨x,j,f,t,u,r,h1,q⟩)));have o:f<a.fStates.length:=by have:=(D.ed x j).frm;omega
   have:cntB a.fStates.length rs y<cntB a.fStates.length e y:=by
    unfold cntB;refine ze3 (fun s _ b=>?_) ⟨f,mem_range.2 o,?_,?_⟩
    ·exact decide_eq_true (p.mono _ _ (of_decide_eq_true b))
    ·exact decide_eq_true (p.mark x j f t y u r h1)
    ·exact decide_eq_false q
   omega⟩
theorem RdI.done (f:AOk a)(h:RdI a a.fStates.length rs):∀ s y:Nat,MB rs s y ↔ y<16/\Rd a s (y:Int):=fun s y=>by
 have b:∀ {s:Nat} {z:Int},Rd a s z->s<a.fStates.length:=fun {s z} h=>by
  induction h with
  |own t x h =>
   rcases h with ⟨q,h,_⟩|⟨ed,h1,u,_⟩
   ·grind
   ·have:=(f.ed ed h1).frm;omega
  |step ed j t s x r _ _ _=>have:=(f.ed ed j).frm;omega
 constructor
 ·intro hm;refine ⟨?_,h.snd s y hm⟩;obtain ⟨l,o,v⟩:=hm;have:=h.sh.row l (aJ o);grind
 ·rintro ⟨g,e⟩;rcases h.all y g with i|m
  ·exact i s e
  ·have heq:cntB a.fStates.length rs y=(range a.fStates.length).length:=by
    have:=countP_le_length (p:=fun s=>@decide (MB rs s y) (Classical.propDecidable _)) (l:=range a.fStates.length);unfold cntB at m ⊢;rw [length_range] at this ⊢;omega
   have:=List.countP_eq_length.1 heq s (mem_range.2 (b e));simp_all
theorem zgb (f:AOk a)(e:a.fEdges.length<=1100000)(K:Ars (List Bool)->Option (List (List Bool))) :
  ∀ (m k:Nat) (rs:List (List Bool)),k<=a.fStates.length->a.fStates.length<m+k->RdI a k rs->∃ b,I4 N0 a a.fStates.length K m ((k:Int),idr rs)=K (idr b)/\RdI a a.fStates.length b
 |0,k,rs,h1,u,_=>by omega
 |m+1,k,rs,h1,u,j=>by
  have r:=f.st;unfold I4;simp only [aB,A5];by_cases h:k<a.fStates.length
  ·rw [if_pos (by omega)];obtain ⟨g,q,i⟩:=zga f e ((k:Int),idr rs) (fun k3_2_0y=>(I4 N0 a a.fStates.length K m) ((aM .i64 ((k:Int)+1)),k3_2_0y)) N0 0 rs (aC _) (by unfold N0;omega) j.sh;rw [aP] at i;obtain ⟨b,p,o⟩:=zgb f e K m (k+1) g (by omega) (by omega) (j.round f i);exact ⟨b,q.trans (by rw [Ae k (by omega)];exact p),o⟩
  grind
theorem zgc (j:WfA a)(p:AOk a)(g:∀ x∈a.fEdges,x.fChecks.length<=1100000)(f:a.fEdges.length<=1000000)(K:Nat->Ars (List Bool)->Option (List (List Bool))) :
  ∀ (m k:Nat) (rs:List (List Bool)),k<=a.fStates.length->a.fStates.length<m+k->ShB k rs->(∀ s y,MB rs s y ↔ s<k/\y<16/\OwnV a s (y:Int))->∃ b,Pg N0 a K m (k,(k:Int),idr rs)=K a.fStates.length (idr b)/\ShB a.fStates.length b/\∀ s y,MB b s y ↔ s<a.fStates.length/\y<16/\OwnV a s (y:Int)
 |0,k,rs,h1,A,_,_=>by omega
 |m+1,k,rs,h1,A,i,z=>by
  have v:=p.st;unfold Pg;simp only [aB,A5];by_cases h:k<a.fStates.length
  ·obtain ⟨t,r,B,q⟩:=y5a j g f h;rw [if_pos (by omega),r,Je,y4d (by rw [i.len];omega),Ae k (by omega)];refine zgc j p g f K m (k+1) (rs++[t]) (by omega) (by omega) ⟨by rw [length_append,i.len];rfl,fun l o=>(mem_append.1 o).elim (i.row l) (fun o=>by simp_all)⟩ (fun s y=>?_);have e:MB (rs++[t]) s y ↔ MB rs s y\/(s=k/\t[y]? = some true):=by
    unfold MB;rw [List.getElem?_append,i.len];by_cases u:s<k
    ·rw [if_pos u];grind
    ·have:rs[s]? = none:=aQ (by rw [i.len];omega);by_cases w:s=k
     ·subst w;simp [this]
     grind
   rw [e,z,q];grind
  grind
theorem y2v (u:WfA a)(b:AOk a)(i:∀ x∈a.fEdges,x.fChecks.length<=1100000)(g:a.fEdges.length<=1000000):∃ rs:List (List Bool),Qu N0 a=some rs/\ShB a.fStates.length rs/\∀ s y:Nat,MB rs s y ↔ y<16/\Rd a s (y:Int):=by
 unfold Qu;rw [y6o,Am];obtain ⟨rs,q,p,m⟩:=zgc u b i g (fun k1_0_0y0 k1_0_0y1=>I4 N0 a k1_0_0y0 (fun k2_1_0y=>frq 7003 k2_1_0y <| reg <| some (aval k2_1_0y)) N0 (0,k1_0_0y1)) N0 0 [] (aC _) (by have:=b.st;unfold N0;omega) ⟨rfl,by simp⟩ (fun s y=>by simp [MB]);have v:∀ {s:Nat} {z:Int},OwnV a s z->s<a.fStates.length:=fun {s z} e=>by
  rcases e with ⟨w,h,_⟩|⟨ed,h1,A,_⟩
  ·grind
  ·have:=(b.ed ed h1).frm;omega
 obtain ⟨f,o,j⟩:=zgb b (by omega) (fun k2_1_0y=>frq 7003 k2_1_0y <| reg <| some (aval k2_1_0y)) N0 0 rs (aC _) (by have:=b.st;unfold N0;omega) ⟨p,fun s y r e=>(m s y).2 ⟨v e,r,e⟩,fun s y h=>.own s _ ((m s y).1 h).2.2,fun y _=>Or.inr (aC _)⟩;refine ⟨f,q.trans (o.trans ?_),j.sh,j.done b⟩;rw [y3t,Am,y16]
variable {l:List Ev}
theorem y2h (h:GS a l):∃ rs:List (List Bool),Qu N0 a=some rs/\ShB a.fStates.length rs/\∀ s y:Nat,MB rs s y ↔ y<16/\Rd a s (y:Int) :=
 y2v h.wf h.ok (fun x b=>(h.wf.ed x b).lc) (by have:=h.edges;omega)
theorem y6k (f:WfA a)(g:M3 N0 a l=some true):∃ e:Int,F4 N0 a l=some e/\Fy N0 a l=some e/\(e=0->GS a l):=by
 obtain ⟨b,j,q⟩:=zov a f l;rw [g] at j;obtain rfl:=Option.some.inj j;obtain ⟨_,u,_⟩:=q rfl;obtain ⟨r,o,m,_⟩:=zhz N0 (by decide) a f;have key:∃ e:Int,F4 N0 a l=some e/\Fy N0 a l=some e:=by
  unfold F4 Fy;rw [o,m,A3,A3,y36 N0 l (by unfold N0;omega) (by decide) (by omega),zw3 N0 l (by unfold N0;omega) (by omega),A3,Aj,A5];by_cases h:r=0
  ·simp_all
  ·simp_all
 obtain ⟨e,p,i⟩:=key;exact ⟨e,p,i,fun h=>GS.of f g (by rw [i,h])⟩
def ofV (c:Cf)(v:Int):List Rf:=(c.fBindings.filter (fun b=>decide (b.fVar=v))).map (·.fRef)
theorem zdc (c:Cf)(v:Int)(f:c.fBindings.length<=1000000)(K:List Rf->Option (List Rf)):∀ (m k:Nat) (out:List Rf),k<=c.fBindings.length->c.fBindings.length<m+k->out.length<=k->M2 N0 v c K m ((k:Int),out)=K (out++((c.fBindings.drop k).filter (fun b=>decide (b.fVar=v))).map (·.fRef))
 |0,k,out,h1,g,_=>by omega
 |m+1,k,out,h1,g,j=>by
  unfold M2;simp only [aB,A5,Am];by_cases h:k<c.fBindings.length
  ·rw [if_pos (by omega),A9 h,A9 h,aA h,aR,Ae k (by omega)];have i:(⟨c.fBindings[k].fRef.fTime,c.fBindings[k].fRef.fSource,c.fBindings[k].fRef.fSeq⟩:Rf)=c.fBindings[k].fRef:=rfl;by_cases e:c.fBindings[k].fVar=v
   ·rw [if_pos e,i,C1 (by simp;omega) (by omega),zdc c v f K m (k+1) _ (by omega) (by omega) (by simp;omega),if_pos (by simpa using e)];simp
   ·rw [if_neg e,zdc c v f K m (k+1) _ (by omega) (by omega) (by omega),if_neg (by simpa using e)]
  grind
theorem y1i (c:Cf)(v:Int)(b:c.fBindings.length<=1000000):Rm N0 c v=some (ofV c v):=by
 unfold Rm;have:=zdc c v b (fun y=>some y) N0 0 [] (aC _) (by unfold N0;omega) (by simp);simpa [ofV] using this
theorem y3d (c:Cf)(v:Int):(ofV c v).length<=c.fBindings.length:=by
 unfold ofV;grind
theorem y4w (x y:Rf):(decide (x.fTime=y.fTime) && (decide (x.fSource=y.fSource) && (decide (x.fSeq=y.fSeq) && true)))=decide (x=y):=by
 obtain ⟨a,b,c⟩:=x;obtain ⟨g,f,e⟩:=y;simp_all
theorem zde (a b:List Rf)(g:a.length=b.length)(i:a.length<=1000000):∀ (m k:Nat),k<=a.length->a.length<m+k->Pf N0 a b (some true) m (k:Int)=some (decide (a.drop k=b.drop k))
 |0,k,h1,j=>by omega
 |m+1,k,h1,j=>by
  unfold Pf;simp only [aB,A5];by_cases h:k<a.length
  ·have f:k<b.length:=by omega
   rw [if_pos (by omega),A9 h,A9 f,y4w,aA h,aA f,Ae k (by omega),Aj,A5,zde a b g i m (k+1) (by omega) (by omega)];by_cases e:a[k]=b[k]
   ·rw [if_pos e];have q:(a[k]::a.drop (k+1)=b[k]::b.drop (k+1)) ↔ a.drop (k+1)=b.drop (k+1):=⟨fun h=>(List.cons.inj h).2,fun h=>by rw [e,h]⟩;rw [decide_eq_decide.2 q]
   ·have q:¬(a[k]::a.drop (k+1)=b[k]::b.drop (k+1)):=fun h=>e (List.cons.inj h).1
    rw [if_neg e,decide_eq_false q]
  grind
theorem zzu (c d:Cf)(v:Int)(f:c.fBindings.length<=1000000)(b:d.fBindings.length<=1000000):U6 N0 c d v=some (decide (ofV c v=ofV d v)):=by
 have h1:=y3d c v;unfold U6;rw [y1i c v f,y1i d v b,A3,A3,aB,aB,Aj,A5];by_cases h:(ofV c v).length=(ofV d v).length
 ·rw [if_pos (by omega)];have:=zde (ofV c v) (ofV d v) h (by omega) N0 0 (aC _) (by unfold N0;omega);simpa using this
 ·rw [if_neg (by omega)];have:ofV c v≠ofV d v:=fun e=>h (by rw [e])
  simp [this]
theorem zlb (rs:List (List Bool))(c d:Cf)(q:c.fBindings.length<=1000000)(p:d.fBindings.length<=1000000)(o:c.fState=(s:Int)){r:List Bool}(f:rs[s]? = some r)(j:r.length=16) :
  ∀ (m k:Nat),k<=16->16<m+k->∃ b:Bool,Gf N0 d c rs (some true) m (k:Int)=some b/\(b=true ↔ ∀ v:Nat,k<=v->v<16->MB rs s v->ofV c (v:Int)=ofV d (v:Int))
 |0,k,h1,x=>by omega
 |m+1,k,h1,x=>by
  have g:=(List.getElem?_eq_some_iff.1 f).1;have i:=(List.getElem?_eq_some_iff.1 f).2;unfold Gf;rw [A5,Ax,Am];by_cases h:k<16
  ·rw [if_pos (by omega),o,A9 g,i,A9 (by omega:k<r.length),zzu c d _ q p,A3];unfold Kd;obtain ⟨b,u,y⟩:=zlb rs c d q p o f j m (k+1) (by omega) (by omega);have w:MB rs s k ↔ r[k]=true:=⟨fun ⟨l,B,A⟩=>by grind,fun e=>⟨r,f,by simp_all⟩⟩;rw [Ae k (by omega),Aq,Aj,A5,u];cases z:r[k] with
   |false =>
    rw [Aq];grind
   |true =>
    rw [Ap];grind
  ·rw [if_neg (by omega)];grind
theorem zlc (rs:List (List Bool))(c d:Cf)(f:c.fStarts.length=d.fStarts.length)(g:c.fStarts.length<=1000000)(K:Option Bool):∀ (m k:Nat),k<=c.fStarts.length->c.fStarts.length<m+k->Hy N0 d c rs K m (k:Int)=if cvL (c.fStarts.drop k) (d.fStarts.drop k)=true then K else some false
 |0,k,h1,i=>by omega
 |m+1,k,h1,i=>by
  unfold Hy;rw [aB,A5,Ax,Am];by_cases h:k<c.fStarts.length
  ·have b:k<d.fStarts.length:=by omega
   rw [if_pos (by omega),A9 h,A9 b,A9 h,A9 b,aA h,aA b,Aj,A5];unfold Kc;rw [Ae k (by omega),zlc rs c d f g K m (k+1) (by omega) (by omega),Ap,A5];have e:cvL (c.fStarts[k]::c.fStarts.drop (k+1)) (d.fStarts[k]::d.fStarts.drop (k+1))=(cvS c.fStarts[k] d.fStarts[k] && cvL (c.fStarts.drop (k+1)) (d.fStarts.drop (k+1))):=rfl;rw [e];unfold cvS;grind
  ·rw [if_neg (by omega),aL (by omega),aL (by omega)];simp [cvL]
theorem y1d {R:α->α->Prop}(f:∀ a b,R a b->¬R b a):∀ {l m:List α},l.Pairwise R->m.Pairwise R->(∀ x,x∈l ↔ x∈m)->l=m
 |[],m,_,_,h=>by
  cases m with
  |nil=>rfl
  |cons b m=>exact absurd ((h b).2 (by simp)) (by simp)
 |a::l,[],_,_,h=>absurd ((h a).1 (by simp)) (by simp)
 |a::l,b::m,h1,g,h=>by
  obtain ⟨q,o⟩:=pairwise_cons.1 h1;obtain ⟨p,j⟩:=pairwise_cons.1 g;have e:a=b:=by
   rcases aT.1 ((h a).1 (by simp)) with e|e
   ·exact e
   ·rcases aT.1 ((h b).2 (by simp)) with i|i
    all_goals grind
  subst e;have:l=m:=y1d f o j (fun x=>by
   grind)
  rw [this]
variable {c d:Cf}
theorem y4x (G:AOk a)(h1:c.fBindings.Pairwise (fun x y=>rCmp x.fRef y.fRef<0))(E:d.fBindings.Pairwise (fun x y=>rCmp x.fRef y.fRef<0))(g:∀ b∈c.fBindings,0<=b.fVar/\b.fVar<16)(A:∀ b∈d.fBindings,0<=b.fVar/\b.fVar<16){m:Mp}(hm:Ec m) :
  rdB m c.fBindings=rdB m d.fBindings ↔ ∀ v:Nat,v<16->has m (v:Int)->ofV c (v:Int)=ofV d (v:Int):=by
 have B:∀ (b:Bd),(mlk m b.fVar).getD false=true ↔ has m b.fVar:=fun b=>zi2 hm _
 have C:∀ (e:Cf) (v:Int),has m v->ofV e v=((rdB m e.fBindings).filter (fun b=>decide (b.fVar=v))).map (·.fRef):=fun e v g=>by
  unfold ofV rdB;rw [filter_filter];grind
 constructor
 ·simp_all
 ·intro h;have f:∀ (c d:Cf),(∀ b∈c.fBindings,0<=b.fVar/\b.fVar<16)->(∀ v:Nat,v<16->has m (v:Int)->ofV c (v:Int)=ofV d (v:Int))->∀ x,x∈rdB m c.fBindings->x∈rdB m d.fBindings:=fun c d g h x z=>by
   obtain ⟨p,o⟩:=aH.1 z;have D:=g x p;have r:=(B x).1 o;have e:=h x.fVar.toNat (by omega) (by grind);rw [Int.toNat_of_nonneg D.1] at e;have:x.fRef∈ofV c x.fVar:=aV.2 ⟨x,aH.2 ⟨p,by simp⟩,rfl⟩;rw [e] at this;obtain ⟨y,w,j⟩:=aV.1 this;obtain ⟨u,i⟩:=aH.1 w;have i:y.fVar=x.fVar:=by simpa using i
   have:y=x:=by
    obtain ⟨yv,yr⟩:=y;obtain ⟨xv,xr⟩:=x;simp only at j i;rw [j,i]
   subst this;exact aH.2 ⟨u,o⟩
  refine y1d (R:=fun x y=>rCmp x.fRef y.fRef<0) (fun x y q F=>?_) (h1.sublist filter_sublist) (E.sublist filter_sublist) (fun x=>⟨f c d g h x,f d c A (fun v g r=>(h v g r).symm) x⟩);have:=Jk.neg x.fRef y.fRef;omega
structure CR (a:Aut) (c:Cf):Prop where
 cs:CS (Bb a) c
 asc:c.fBindings.Pairwise (fun x y=>rCmp x.fRef y.fRef<0)
 var:∀ b∈c.fBindings,0<=b.fVar/\b.fVar<16
theorem Gd57.cr (h:GS a l){i:Nat}(hi:i<=12)(e:Gd57 a l i c):CR a c:=⟨e.cs h hi,e.ci.asc,fun b f=>by
 have h1:=(e.cb.bd b f).1;have g:=h.ok.vars;omega⟩
structure RsOk (a:Aut) (rs:List (List Bool)):Prop where
 sh:ShB a.fStates.length rs
 rd:∀ s y:Nat,MB rs s y ↔ y<16/\Rd a s (y:Int)
theorem zw1 (J:AOk a)(q:RsOk a rs)(j:CR a c)(A:CR a d):Tx N0 rs c d=some (cov (Bb a) c d):=by
 have G:=j.cs.st;have z:=j.cs.lb;have y:=A.cs.lb;have x:=j.cs.ls;have I:=(Nt a).1.len;obtain ⟨s,C⟩:∃ s:Nat,c.fState=(s:Int):=⟨c.fState.toNat,by omega⟩;have m:s<a.fStates.length:=by omega
 obtain ⟨r,p,o⟩:=q.sh.at m;unfold Tx cov;rw [Ax,Am,Aj,A5];unfold Ke;rw [Ap,Aj,aB,aB,A5];by_cases h:c.fState=d.fState
 ·rw [if_pos h,decide_eq_true h,aU];by_cases D:c.fStarts.length=d.fStarts.length
  ·rw [if_pos (by omega)];have g:=zlc rs c d D x (Gf N0 d c rs (some true) N0 0) N0 0 (aC _) (by unfold N0;omega);rw [aP,aP] at g;refine g.trans ?_;cases K:cvL c.fStarts d.fStarts with
   |false=>simp
   |true =>
    rw [if_pos rfl,aU];obtain ⟨b,F,E⟩:=zlb rs c d z y C p o N0 0 (aC _) (by unfold N0;omega);refine Eq.trans F (congrArg some ?_);have H:(Bb a).getD s []=(Bb a)[s]'(by omega):=by rw [aG,aF (by omega)];rfl
    have w:=(Nt a).1.map _ (aE (by omega:s<(Bb a).length));have i:∀ v:Nat,has ((Bb a)[s]'(by omega)) (v:Int) ↔ Rd a s (v:Int):=fun v=>by
     have f:=(Nt a).2 s (v:Int);unfold hasO at f;simp_all
    have key:=y4x J j.asc A.asc j.var A.var w;have e:rdC (Bb a) c=rdC (Bb a) d ↔ b=true:=by
     unfold rdC;rw [<-h,C,aK,H,key,E];exact ⟨fun u v _ f B=>u v f ((i v).2 ((q.rd s v).1 B).2),fun u v f B=>u v (aC _) f ((q.rd s v).2 ⟨f,(i v).1 B⟩)⟩
    grind
  ·rw [if_neg (by omega),y1y D];rfl
 simp_all
theorem zbn {t:Nat}{v:Int}:(mlk ((Bb a).getD t []) v).getD false=true ↔ t<a.fStates.length/\Rd a t v:=by
 obtain ⟨h1,m⟩:=Nt a;rw [<-m];by_cases i:t<a.fStates.length
 ·obtain ⟨l,f,hm⟩:=h1.at i;rw [aG,f,Option.getD_some,zi2 hm];exact ⟨fun h=>⟨l,f,h⟩,fun ⟨g,b,j⟩=>by simp_all⟩
 ·have e:(Bb a)[t]? = none:=aQ (by rw [h1.len];omega);rw [aG,e];refine ⟨fun h=>?_,fun ⟨g,b,j⟩=>by rw [e] at b;cases b⟩;have:mlk ([]:Mp) v=none:=rfl;simp [this] at h
theorem zxi {held:List Ev}{m:Mp}{v:Int}(f:(mlk m v).getD false=true):∀ l:List Bd,ev1 held (rdB m l) v=ev1 held l v
 |[]=>rfl
 |b::l=>by
  have e:=zxi (held:=held) f l;unfold rdB ev1 at e ⊢;grind
theorem zv4 (m:Mp)(l k:List Bd):rdB m (l++k)=rdB m l++rdB m k:=by unfold rdB;rw [filter_append]
theorem zv3 {m b:Mp}(h:∀ v,(mlk b v).getD false=true->(mlk m v).getD false=true)(l:List Bd):rdB b (rdB m l)=rdB b l:=by
 unfold rdB;rw [filter_filter];grind
variable {held:List Ev}
theorem zul {t:Nat}(g:t<a.fStates.length){l k:List Bd}(h:rdB ((Bb a).getD t []) l=rdB ((Bb a).getD t []) k)(m:l.length<=1000000)(o:k.length<=1000000){e:Exn}(f:WfE e)(j:∀ v,OccV v e->Rd a t v)(own:Int)(ev:Ev):trR (enH held l) e own ev=trR (enH held k) e own ev:=by
 refine y2c (fun i hi=>?_) (Jl m) (Jl o) f own ev;rw [Jh,Jh];split
 ·rename_i q;have b:=zbn.2 ⟨g,j (i:Int) ⟨i,by omega,rfl,hi⟩⟩;rw [<-zxi b l,<-zxi b k,h]
 ·rfl
theorem zxr:∀ {a b c d:List Sta},cvL a b=true->cvL c d=true->cvL (a++c) (b++d)=true
 |[],[],_,_,_,h=>h
 |x::r,y::s,c,d,h1,e=>by
  unfold cvL at h1;rw [aD] at h1;rw [cons_append,cons_append];unfold cvL;rw [h1.1,zxr h1.2 e];rfl
 |[],_::_,_,_,h,_=>by cases h
 |_::_,[],_,_,h,_=>by cases h
theorem zmh {x y:Sta}(h:cvS x y=true):x.fScope=y.fScope/\y.fTime<=x.fTime:=by
 unfold cvS at h;simp_all
theorem Wh {p:Sta->Bool}(b:∀ x y:Sta,x.fScope=y.fScope->p x=p y):∀ {l m:List Sta},cvL l m=true->cvL (l.filter p) (m.filter p)=true
 |[],[],_=>rfl
 |x::r,y::s,h=>by
  unfold cvL at h;rw [aD] at h;rw [aR,aR,b x y (zmh h.1).1];split
  ·unfold cvL;rw [h.1,Wh b h.2];rfl
  ·exact Wh b h.2
 |[],_::_,h=>by cases h
 |_::_,[],h=>by cases h
theorem y48 {l m:List Sta}(h:cvL l m=true)(s t:Int):cvL (opS l s t) (opS m s t)=true:=by
 unfold opS;refine zxr (Wh (fun x y q=>by rw [q]) h) ?_;unfold cvL;rw [Wh (fun x y q=>by rw [q]) h];unfold cvS;simp
theorem zxo (t:Int):∀ (b:List Int) {l m:List Sta},cvL l m=true->cvL (opL l b t) (opL m b t)=true
 |[],_,_,h=>h
 |s::b,l,m,h=>zxo t b (y48 h s t)
def TmS (l:List Sta):Prop:=∀ s∈l,0<=s.fTime/\s.fTime<=1099511627776
theorem zxq (t:Int)(j:0<=t/\t<=1099511627776)(x:Lim):∀ {l m:List Sta},cvL l m=true->TmS l->TmS m->keP m t x=true->keP l t x=true
 |[],[],_,_,_,h=>h
 |y::r,z::s,h,h1,e,b=>by
  unfold cvL at h;rw [aD] at h;obtain ⟨f,o⟩:=zmh h.1;have i:=zxq t j x h.2 (fun k b=>h1 k (mem_cons_of_mem _ b)) (fun k b=>e k (mem_cons_of_mem _ b));have u:=h1 y (by simp);have p:=e z (by simp);unfold keP at b i ⊢;rw [find?_cons] at b ⊢;by_cases q:z.fScope=x.fScope
  ·have g:y.fScope=x.fScope:=f.trans q;rw [decide_eq_true q] at b;rw [decide_eq_true g];simp only [decide_eq_true_eq] at b ⊢;rw [Cq _ (by omega)] at b ⊢;omega
  simp_all
 |[],_::_,h,_,_,_=>by cases h
 |_::_,[],h,_,_,_=>by cases h
theorem y1m {l:List Sta}(h:TmS l){t:Int}(f:0<=t/\t<=1099511627776)(b:List Int):TmS (opL l b t):=fun s g=>by
 rcases opL_mem t b g with ⟨_,e⟩|e
 ·rw [e];exact f
 ·exact h s e
structure Cvd (a:Aut) (c d:Cf):Prop where
 cov:cov (Bb a) c d=true
 st:0<=c.fState/\c.fState<a.fStates.length
 lc:c.fBindings.length<=900000
 ld:d.fBindings.length<=900000
 tc:TmS c.fStarts
 td:TmS d.fStarts
theorem Cvd.out (h:Cvd a c d):c.fState=d.fState/\cvL c.fStarts d.fStarts=true/\rdB ((Bb a).getD c.fState.toNat []) c.fBindings=rdB ((Bb a).getD c.fState.toNat []) d.fBindings:=by
 have h1:=h.cov;unfold Go.Proofs.YtidhlpjgifoneaaGreat.cov rdC at h1;grind
theorem zhl {p q:α->Bool}:∀ {l:List α},(∀ x∈l,p x=q x)->l.any p=l.any q
 |[],_=>rfl
 |x::l,h=>by grind
theorem zu6 {p q:α->Bool}:∀ {l:List α},(∀ x∈l,p x=q x)->l.all p=l.all q
 |[],_=>rfl
 |x::l,h=>by grind
theorem zuj (i:WfA a)(h:Cvd a c d)(held:List Ev)(e:Ev):∀ g∈Ww a c.fState,vio (enH held c.fBindings) e g=vio (enH held d.fBindings) e g:=fun g b=>by
 obtain ⟨h1,r,m⟩:=h.out;obtain ⟨f,q,p,o⟩:=Wo h.st;rw [o] at b;unfold vio;have:=h.st;rw [zul (by omega) m (by have:=h.lc;omega) (by have:=h.ld;omega) ((i.st f p).2 g b) (fun v j=>.own _ _ (Or.inl ⟨f,q,g,b,j⟩))]
theorem y4c (B:WfA a)(X:AOk a)(h:Cvd a c d){e:Ev}(w:Cl e=true){x:Ed}(r:x∈a.fEdges)(W:x.fFrom=c.fState){A:Cf}(z:coP a held d x e=some A):∃ F,coP a held c x e=some F/\F.fState=A.fState/\(0<=A.fState->cov (Bb a) F A=true):=by
 obtain ⟨h1,U,I⟩:=h.out;have O:=h.st;have R:=h.lc;have Q:=h.ld;have f:0<=e.fTime/\e.fTime<=1099511627776:=by
  unfold Cl at w;simp only [aD,decide_eq_true_eq] at w;exact ⟨w.1,w.2.1⟩
 have b:∀ y∈chE x++[x.fCond],∀ v,OccV v y->Rd a c.fState.toNat v:=fun y i v C=>.own _ _ (Or.inr ⟨x,r,by omega,y,i,C⟩)
 have p:rdB ((Bb a).getD c.fState.toNat []) (bdN c x e)=rdB ((Bb a).getD c.fState.toNat []) (bdN d x e):=by
  unfold bdN;rw [zv4,zv4,I]
 have lbc:(bdN c x e).length<=1000000:=by unfold bdN;simp;omega
 have lbd:(bdN d x e).length<=1000000:=by unfold bdN;simp;omega
 have m:cvL (stN c x e) (stN d x e)=true:=by unfold stN;exact zxo _ _ U
 have E:=zcm (B.ed x r);have o:=Zu z;unfold coP at z;split at z;rotate_left
 ·cases z
 rename_i q;obtain ⟨N,M,L,G,K⟩:=q;refine ⟨⟨x.fTo,bdN c x e,(stN c x e).filter (ncl x)⟩,?_,by rw [o],?_⟩
 ·unfold coP;refine if_pos ⟨N,?_,?_,?_,?_⟩
  ·rw [<-M];unfold gdP;rw [<-h1];refine zhl (fun g T=>?_);rw [zuj B h held e g T]
  ·rw [<-L];exact zul (by omega) I (by omega) (by omega) (B.ed x r).cond (b _ (by simp)) _ _
  ·rw [all_eq_true] at G ⊢;exact fun y i=>zxq _ f y m (y1m h.tc f _) (y1m h.td f _) (G y i)
  ·rw [<-K];unfold ckP;exact zu6 (fun y i=>zul (by omega) p lbc lbd (E.2 y i) (b y (by simp [i])) _ _)
 ·rw [o];intro j;have j:0<=x.fTo:=j;unfold cov rdC;simp only [aD,decide_eq_true_eq,true_and];refine ⟨Wh (fun u v D=>by unfold ncl clP;rw [D]) m,?_⟩;have H:∀ v,(mlk ((Bb a).getD x.fTo.toNat []) v).getD false=true->(mlk ((Bb a).getD c.fState.toNat []) v).getD false=true:=fun v C=>by
   obtain ⟨V,J⟩:=zbn.1 C;exact zbn.2 ⟨by omega,.step x r _ x.fTo.toNat v (by omega) (by omega) J⟩
  rw [<-zv3 H,p,zv3 H]
theorem y06 (o:WfA a)(u:AOk a)(h:Cvd a c d){e:Ev}(r:Cl e=true){f:Cf}(b:f∈outP a held d e):∃ m∈outP a held c e,m.fState=f.fState/\(0<=f.fState->cov (Bb a) m f=true):=by
 obtain ⟨h1,A,z⟩:=h.out;unfold outP at b ⊢;rcases mem_append.1 b with b|b
 ·have j:skP a held c e=skP a held d e:=by
   unfold skP;rw [<-h1,zhl (zuj o h held e)]
  rw [<-j] at b;split at b
  ·rename_i q;rw [mem_singleton.1 b];exact ⟨c,mem_append_left _ (by rw [if_pos q];simp),h1,fun _=>h.cov⟩
  ·simp at b
 ·obtain ⟨x,p,b⟩:=mem_filterMap.1 b;obtain ⟨i,g⟩:=Wp p;obtain ⟨m,y,w,v⟩:=y4c o u h r i (by rw [h1];exact g) b;grind
theorem Gd57.cvd (h:GS a l){i:Nat}(hi:i<=12)(f:Gd57 a l i c)(g:Gd57 a l i d)(e:cov (Bb a) c d=true):Cvd a c d :=
 ⟨e,f.cb.st,by have:=f.cb.lb;omega,by have:=g.cb.lb;omega,fun s b=>(f.ci.scp s b).2,fun s b=>(g.ci.scp s b).2⟩
variable {S:List (List Cf)}
theorem y1a (e:vOk a l S l 0=true):∀ i,i<=l.length->vOk a l S (l.drop i) i=true
 |0,_=>e
 |i+1,hi=>by
  have b:=y1a e i (by omega);rw [aA (by omega),Zg,aD] at b;exact b.2
theorem zvg (h:GS a l)(D:G9 a l S)(K:covd (Bb a) (S.getD 0 []) cf0=true)(G:vOk a l S l 0=true):∀ i,(hi:i<=l.length)->(∀ d∈xsI a l i,covd (Bb a) (S.getD i []) d=true)/\∀ (J:i<l.length),maN a l (xsI a l i) l[i]=[]:=by
 have H:=h.len;have z:∀ i,i<=l.length->∀ c∈S.getD i [],Gd57 a l i c:=fun i hi c f=>by
  have u:i<S.length:=by have:=D.ln;omega
  rw [aG,aF u,Option.getD_some] at f;exact D.gd i u c f
 have step:∀ i,(hi:i<l.length)->(∀ d∈xsI a l i,covd (Bb a) (S.getD i []) d=true)->(∀ g∈xsI a l (i+1),covd (Bb a) (S.getD (i+1) []) g=true)/\maN a l (xsI a l i) l[i]=[]:=fun i hi C=>by
  have r:=y1a G i (by omega);rw [aA hi,Zg,aD,all_eq_true] at r;have x:=h.so.pl _ (aE hi);have key:∀ d∈xsI a l i,∀ g∈outP a l d l[i],∃ c∈S.getD i [],∃ e∈outP a l c l[i],e.fState=g.fState/\(0<=g.fState->cov (Bb a) e g=true):=fun d j g b=>by
   obtain ⟨c,f,A⟩:=aS.1 (C d j);obtain ⟨e,q,v,w⟩:=y06 h.wf h.ok ((z i (by omega) c f).cvd h (by omega) (y2a h (by omega) d j) A) x b;exact ⟨c,f,e,q,v,w⟩
  have y:∀ c∈S.getD i [],maN a l [c] l[i]=[]/\∀ e∈cfN a l [c] l[i],covd (Bb a) (S.getD (i+1) []) e=true:=fun c f=>by
   have:=r.1 c f;unfold okC at this;simp_all
  refine ⟨fun g b=>?_,eq_nil_iff_forall_not_mem.2 (fun m hm=>?_)⟩
  ·rw [(Wz h hi).1] at b;unfold cfN at b;rw [Dk cfCmp_to,aN] at b;obtain ⟨d,j,b⟩:=b;obtain ⟨p,o⟩:=zq9 b;obtain ⟨c,f,e,q,v,w⟩:=key d j g p;have B:e∈cfN a l [c] l[i]:=by
    unfold cfN;rw [Dk cfCmp_to,aN];refine ⟨c,by simp,?_⟩;unfold cfO;refine aH.2 ⟨q,?_⟩;rw [v,decide_eq_false (by omega)];rfl
   obtain ⟨I,F,E⟩:=aS.1 ((y c f).2 e B);exact aS.2 ⟨I,F,zxs E (w o)⟩
  ·unfold maN at hm;rw [Dk Ek,aN] at hm;obtain ⟨d,j,hm⟩:=hm;unfold maO at hm;obtain ⟨g,b,_⟩:=aV.1 hm;obtain ⟨p,o⟩:=aH.1 b;rw [decide_eq_true_eq] at o;obtain ⟨c,f,e,q,v,_⟩:=key d j g p;have:(⟨e.fBindings⟩:Ma)∈maN a l [c] l[i]:=by
    unfold maN;rw [Dk Ek,aN];refine ⟨c,by simp,?_⟩;unfold maO;exact aV.2 ⟨e,aH.2 ⟨q,by simp_all⟩,rfl⟩
   simp_all
 have all:∀ i,i<=l.length->∀ d∈xsI a l i,covd (Bb a) (S.getD i []) d=true:=by
  intro i
  induction i with
  |zero =>
   intro _ d j;rw [(Zw a l).1] at j;simp_all
  |succ i C=>grind
 simp_all
theorem zzk (h:GS a l)(f:G9 a l S)(g:covd (Bb a) (S.getD 0 []) cf0=true)(b:vOk a l S l 0=true):msI a l l.length=[] :=
 (y5x h).2 (fun j _ e=>(zvg h f g b j (by omega)).2 e)
end Go.Proofs.YtidhlpjgifoneaaGreat
