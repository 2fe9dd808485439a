/- Layer 8, plainly. -/
import Derived.Test.YthbogefcfhmpgaaGreatK20
set_option linter.unusedVariables false
set_option linter.unusedSimpArgs false
namespace Go.Proofs.YthbogefcfhmpgaaGreat
open Go.RowKit List
open List renaming length_map->aA,drop_eq_nil_of_le->aB,drop_eq_getElem_cons->aC,getElem?_eq_getElem->aD,mem_singleton->aG,getElem_mem->aH,mem_append->aK,mem_cons->aL,length_zipIdx->aN,mem_or_eq_of_mem_set->aO,mem_iff_getElem->aP,getElem?_set->aQ,pairwise_cons->aV,length_append->aW,drop_zero->aX,replicate->aY,length_set->bA,mem_filter->bB,mem_cons_of_mem->bC,length_eraseIdx_of_lt->bD,length_take->bE,length_cons->bF,eq_of_mem_replicate->bH,nodup_cons->bI,getElem?_replicate->bJ,mem_map->bL,map_cons->bM,getElem_cons_zero->bN,getElem_cons_succ->bO,countP_le_length->bQ,length_filter_le->bR,length_singleton->bS,length_drop->bT,length_nil->bU
open Or renaming inr->aE,inl->aF
open Int renaming natCast_zero->aJ,toNat_natCast->aM,toNat_of_nonneg->bG
open Bool renaming not_false->aR,not_true->aU,not_eq_true->bP
open Nat renaming le_refl->aS,le_trans->bK
open Iff renaming rfl->aT
open IntKind renaming wrap->aZ
abbrev T16:=Bool×Bool×Bool×Bool×Bool×Bool×Bool×Bool×Bool×Bool×Bool×Bool×Bool×Bool×Bool×Bool
def l16 (t:T16):List Bool:=[t.1,t.2.1,t.2.2.1,t.2.2.2.1,t.2.2.2.2.1,t.2.2.2.2.2.1,t.2.2.2.2.2.2.1,t.2.2.2.2.2.2.2.1,t.2.2.2.2.2.2.2.2.1,t.2.2.2.2.2.2.2.2.2.1,t.2.2.2.2.2.2.2.2.2.2.1,t.2.2.2.2.2.2.2.2.2.2.2.1,t.2.2.2.2.2.2.2.2.2.2.2.2.1,t.2.2.2.2.2.2.2.2.2.2.2.2.2.1,t.2.2.2.2.2.2.2.2.2.2.2.2.2.2.1,t.2.2.2.2.2.2.2.2.2.2.2.2.2.2.2]
theorem Ey (t:T16):(l16 t).length=16:=rfl
def own1 (i:Nat)(e:Exn):Prop:=usV e.fOp=true/\e.fVar=(i:Int)
theorem zkq (n:Nat)(e:Exn)(t:T16):∃ t':T16,Oy n e t=some (0,t')/\∀ i,i<16->((l16 t')[i]? = some true ↔ (l16 t)[i]? = some true\/own1 i e):=by
 unfold Oy
 rw [zi4,A0]
 simp only [A3,Jy]
 by_cases hu:usV e.fOp=true
 rotate_left
 ·have hu':usV e.fOp=false:=by cases h:usV e.fOp<;>simp_all
  rw [hu',Ae]
  exact ⟨t,rfl,fun i _=>⟨aF,fun h=>h.elim id (fun h=>absurd h.1 hu)⟩⟩
 rw [hu,Ab]
 have hno:¬(0<=e.fVar/\e.fVar<16)->∀ i,i<16->((l16 t)[i]? = some true ↔ (l16 t)[i]? = some true\/own1 i e):=fun h i hi=>⟨aF,fun h'=>h'.elim id (fun h'=>absurd h'.2 (by omega))⟩
 by_cases h0:0<=e.fVar
 rotate_left
 ·rw [if_neg h0];simp_all
 rw [if_pos h0]
 by_cases h1:e.fVar<16
 rotate_left
 ·rw [if_neg h1];simp_all
 rw [if_pos h1]
 have key:∀ (j:Nat) (t':T16),e.fVar=(j:Int)->j<16->l16 t'=(l16 t).set j true->∀ i,i<16->((l16 t')[i]? = some true ↔ (l16 t)[i]? = some true\/own1 i e):=fun j t' hj hlt hs i hi=>by
  rw [hs,aQ]
  unfold own1
  by_cases hij:j=i
  ·subst hij
   simp [Ey,hlt,hu,hj]
  grind
 have:e.fVar=0\/e.fVar=1\/e.fVar=2\/e.fVar=3\/e.fVar=4\/e.fVar=5\/e.fVar=6\/e.fVar=7\/e.fVar=8\/e.fVar=9\/e.fVar=10\/e.fVar=11\/e.fVar=12\/e.fVar=13\/e.fVar=14\/e.fVar=15:=by omega
 rcases this with h|h|h|h|h|h|h|h|h|h|h|h|h|h|h|h
 ·rw [h];exact ⟨_,rfl,key 0 _ h (by decide) rfl⟩
 ·rw [h];exact ⟨_,rfl,key 1 _ h (by decide) rfl⟩
 ·rw [h];exact ⟨_,rfl,key 2 _ h (by decide) rfl⟩
 ·rw [h];exact ⟨_,rfl,key 3 _ h (by decide) rfl⟩
 ·rw [h];exact ⟨_,rfl,key 4 _ h (by decide) rfl⟩
 ·rw [h];exact ⟨_,rfl,key 5 _ h (by decide) rfl⟩
 ·rw [h];exact ⟨_,rfl,key 6 _ h (by decide) rfl⟩
 ·rw [h];exact ⟨_,rfl,key 7 _ h (by decide) rfl⟩
 ·rw [h];exact ⟨_,rfl,key 8 _ h (by decide) rfl⟩
 ·rw [h];exact ⟨_,rfl,key 9 _ h (by decide) rfl⟩
 ·rw [h];exact ⟨_,rfl,key 10 _ h (by decide) rfl⟩
 ·rw [h];exact ⟨_,rfl,key 11 _ h (by decide) rfl⟩
 ·rw [h];exact ⟨_,rfl,key 12 _ h (by decide) rfl⟩
 ·rw [h];exact ⟨_,rfl,key 13 _ h (by decide) rfl⟩
 ·rw [h];exact ⟨_,rfl,key 14 _ h (by decide) rfl⟩
 ·rw [h];exact ⟨_,rfl,key 15 _ h (by decide) rfl⟩
theorem zmh {x y:Exn}(h:Ag x=Ag y):x=y:=by
 have:=congrArg Bs h
 rw [Pa,Pa] at this
 exact Option.some.inj this
variable {i:Nat}
theorem zjj {l:List (Nat×Exn)}{e:Exn}(ha:e.fArgs=l.map (fun p=>Ag p.2)):Occ i e ↔ own1 i e\/∃ p∈l,Occ i p.2:=by
 constructor
 ·intro h
  cases h with
  |here _ h hv=>exact aF ⟨h,hv⟩
  |sub _ y hy h =>
   rw [ha] at hy
   obtain ⟨p,hp,hpe⟩:=bL.1 hy
   exact aE ⟨p,hp,by rw [zmh hpe];exact h⟩
 ·rintro (h|⟨p,hp,h⟩)
  ·exact .here _ h.1 h.2
  ·exact .sub _ p.2 (by grind) h
theorem Ym (n:Nat)(l:List (Nat×Exn))(e:Exn)(ha:e.fArgs=l.map (fun p=>Ag p.2))(hl:l.length<=4000000)
  (ih:∀ p∈l,∀ t:T16,∃ t':T16,Ha n p.2 t=some (0,t')/\∀ i,i<16->((l16 t')[i]? = some true ↔ (l16 t)[i]? = some true\/Occ i p.2)) (t0:T16) :
  ∀ (m k:Nat) (t:T16),k<=l.length->l.length<m+k->(∀ i,i<16->((l16 t)[i]? = some true ↔ (l16 t0)[i]? = some true\/own1 i e\/∃ p∈l.take k,Occ i p.2)) ->
   ∃ t':T16,Lp n (Ha n) e (fun k1_0_0y0 k1_0_0y1 k1_0_0y2 k1_0_0y3 k1_0_0y4 k1_0_0y5 k1_0_0y6 k1_0_0y7 k1_0_0y8 k1_0_0y9 k1_0_0y10 k1_0_0y11 k1_0_0y12 k1_0_0y13 k1_0_0y14 k1_0_0y15=>some (0,(k1_0_0y0,k1_0_0y1,k1_0_0y2,k1_0_0y3,k1_0_0y4,k1_0_0y5,k1_0_0y6,k1_0_0y7,k1_0_0y8,k1_0_0y9,k1_0_0y10,k1_0_0y11,k1_0_0y12,k1_0_0y13,k1_0_0y14,k1_0_0y15))) m ((k:Int),t)=some (0,t')/\∀ i,i<16->((l16 t')[i]? = some true ↔ (l16 t0)[i]? = some true\/own1 i e\/∃ p∈l,Occ i p.2)
 |0,k,t,h1,h2,_=>by omega
 |m+1,k,t,h1,h2,h3=>by
  unfold Lp
  simp only [ha,aA,A3,Ak]
  by_cases h:k<l.length
  ·rw [if_pos (by omega),G7 h]
   obtain ⟨t',q1,q2⟩:=ih l[k] (aH h) t
   rw [q1,Cl,if_pos rfl,Ai k (by omega)]
   refine Ym n l e ha hl ih t0 m (k+1) t' (by omega) (by omega) (fun i hi=>?_)
   rw [q2 i hi,h3 i hi,take_succ_eq_append_getElem h]
   simp only [aK,aG]
   grind
  ·rw [if_neg (by omega)]
   grind
theorem zgm:∀ (s:Nat) (e:Exn),ETr s e->s<=4000000->∀ n,s+1<n->∀ t:T16,∃ t':T16,Ha n e t=some (0,t')/\∀ i,i<16->((l16 t')[i]? = some true ↔ (l16 t)[i]? = some true\/Occ i e):=by
 intro s
 induction s using Nat.strongRecOn with
 |ind s IH =>
  intro e ht hs n hn t
  cases ht with
  |mk l e h ha =>
   obtain ⟨n',rfl⟩:∃ n',n=n' + 1:=⟨n-1,by omega⟩
   have hl:=Mq (l:=l) (fun p hp=>(h p hp).pos)
   simp only [Ha]
   obtain ⟨t1,q1,q2⟩:=zkq n' e t
   rw [q1,Cl,Ak,A3,if_pos rfl]
   obtain ⟨t',r1,r2⟩:=Ym n' l e ha (by omega) (fun p hp t=>by
    have:=Hg hp
    exact IH p.1 (by omega) p.2 (h p hp) (by omega) n' (by omega) t) t n' 0 t1 (by omega) (by omega) (fun i hi=>by
     rw [q2 i hi];simp)
   exact ⟨t',r1,fun i hi=>by rw [r2 i hi,zjj ha]⟩
def Ee (t:T16)(k:Nat):List Int:=((l16 t).zipIdx.drop k).filterMap (fun p=>if p.1 then some (p.2:Int) else none)
theorem zhg (t:T16)(k:Nat)(h:k<16):Ee t k=(if (l16 t)[k]'(by rw [Ey];exact h)=true then [(k:Int)] else [])++Ee t (k+1):=by
 unfold Ee
 have hk:k<(l16 t).zipIdx.length:=by rw [aN,Ey];exact h
 rw [aC hk,filterMap_cons]
 grind
theorem Vn (n:Nat)(t:T16)(K:List Int->Option (List Int)):∀ (m k:Nat) (out:List Int),k<=16->16<m+k->out.length<=k->B3 n (0,t) K m ((k:Int),out)=K (out++Ee t k)
 |0,k,out,h1,h2,_=>by omega
 |m+1,k,out,h1,h2,h3=>by
  by_cases h:k=16
  ·subst h
   unfold B3
   simp only [A3]
   rw [if_neg (by omega)]
   have:Ee t 16=[]:=by unfold Ee;rw [aB (by rw [aN,Ey];omega)];rfl
   rw [this,append_nil]
  ·have hk:k<16:=by omega
   have iha:=Vn n t K m (k+1) (out++[(k:Int)]) (by omega) (by omega) (by simp;omega)
   have ihb:=Vn n t K m (k+1) out (by omega) (by omega) (by omega)
   rw [zhg t k hk]
   have step:∀ (b:Bool),(l16 t)[k]'(by rw [Ey];exact hk)=b->reg (cnd b (app out [(k:Int)] 8 fun x=>B3 n (0,t) K m ((aZ .i64 ((k:Int)+1)),x)) (B3 n (0,t) K m ((aZ .i64 ((k:Int)+1)),out)))=K (out++((if (l16 t)[k]'(by rw [Ey];exact hk)=true then [(k:Int)] else [])++Ee t (k+1))):=fun b hb=>by
    rw [hb,Aa,Bv (by simp;omega) (by omega),Ai k (by omega),iha,ihb]
    cases b
    ·rw [Ae];simp
    ·rw [Ab];simp
   unfold B3
   simp only [A3,Jy]
   have:k=0\/k=1\/k=2\/k=3\/k=4\/k=5\/k=6\/k=7\/k=8\/k=9\/k=10\/k=11\/k=12\/k=13\/k=14\/k=15:=by omega
   rcases this with rfl|rfl|rfl|rfl|rfl|rfl|rfl|rfl|rfl|rfl|rfl|rfl|rfl|rfl|rfl|rfl<;>exact step _ rfl
theorem zjr (t:T16)(k:Nat)(v:Int):v∈Ee t k ↔ ∃ i:Nat,k<=i/\i<16/\v=(i:Int)/\(l16 t)[i]? = some true:=by
 unfold Ee
 rw [mem_filterMap]
 constructor
 ·rintro ⟨⟨b,i⟩,hm,hv⟩
  obtain ⟨j,hj,he⟩:=aP.1 hm
  rw [getElem_drop,getElem_zipIdx] at he
  injection he with e1 e2
  rw [bT,aN,Ey] at hj
  grind
 ·rintro ⟨i,h1,h2,rfl,h3⟩
  refine ⟨(true,i),?_,by simp⟩
  refine aP.2 ⟨i-k,by rw [bT,aN,Ey];omega,?_⟩
  grind
theorem zam {e:Exn}(hw:WfE e)(n:Nat)(hn:10000000<n):∃ vs:List Int,P7 n e=some vs/\vs.length<=16/\∀ v,v∈vs ↔ ∃ i:Nat,i<16/\v=(i:Int)/\Occ i e:=by
 obtain ⟨z,hz,ht⟩:=hw
 obtain ⟨t,q1,q2⟩:=zgm z e ht hz n (by omega) (false,false,false,false,false,false,false,false,false,false,false,false,false,false,false,false)
 have hf:∀ i:Nat,¬(l16 (false,false,false,false,false,false,false,false,false,false,false,false,false,false,false,false))[i]? = some true:=fun i h=>by
  obtain ⟨hi,h⟩:=List.getElem?_eq_some_iff.1 h
  rw [Ey] at hi
  have:i=0\/i=1\/i=2\/i=3\/i=4\/i=5\/i=6\/i=7\/i=8\/i=9\/i=10\/i=11\/i=12\/i=13\/i=14\/i=15:=by omega
  rcases this with rfl|rfl|rfl|rfl|rfl|rfl|rfl|rfl|rfl|rfl|rfl|rfl|rfl|rfl|rfl|rfl<;>cases h
 refine ⟨Ee t 0,?_,?_,fun v=>?_⟩
 ·unfold P7
  rw [q1,Cl]
  have:=Vn n t (fun y=>some y) n 0 [] (by omega) (by omega) (by simp)
  simpa using this
 ·unfold Ee
  refine bK (length_filterMap_le _ _) ?_
  rw [bT,aN,Ey]
  omega
 ·rw [zjr]
  grind
variable {β:Type}
theorem zib (i:Nat)(x:Option β):frb i x=x:=by unfold frb;rfl
def D3 (e:Ev):Bool:=decide (0<=e.fTime) && (decide (e.fTime<=1099511627776) && (decide (0<=e.fSource) && (decide (e.fSource<8) && (decide (0<=e.fSeq) && decide (e.fSeq<=1099511627776)))))
def idt (e:Ev):Fo:=⟨e.fSource,e.fSeq⟩
theorem zgs (n:Nat)(e:Ev):Pb n e=some (D3 e):=by
 unfold Pb D3
 simp only [A3]
 repeat' split
 all_goals (simp_all<;>omega)
theorem zm9 (n:Nat)(e:Ev):Jp n e=some (idt e):=rfl
def Dr (e:Ev):Da:=⟨e.fTime,e.fSource,e.fSeq⟩
def C6 (a b:Ev):Int:=rCmp (Dr a) (Dr b)
theorem zma (n:Nat)(hn:4<=n)(a b:Ev):Pd n a b=some (C6 a b):=by
 obtain ⟨m,rfl⟩:∃ m,n=m+4:=⟨n-4,by omega⟩
 unfold Pd Pw
 simp only [A0,zmg,zmf,Bool.and_true,Af,Bool.and_eq_true,decide_eq_true_eq]
 split
 ·rename_i h
  obtain ⟨h1,h2,h3⟩:=h
  simp [C6,rCmp,Dr,or3,cmpI,h1,h2,h3]
 ·rfl
def few1 (l:List A4):Bool:=(l.take 40).all (fun v=>decide (v.fText.size<=128)) && decide (l.length<40)
theorem z89 (n:Nat)(l:List A4)(K:Option Bool):∀ (m k:Nat),k<=l.length->k<=40->40<m+k->La n l K m k=if ((l.take 40).drop k).all (fun v=>decide (v.fText.size<=128)) then K else some false
 |0,k,h1,h2,h3=>by omega
 |m+1,k,h1,h2,h3=>by
  unfold La
  simp only [aA,A3]
  by_cases h:k<l.length
  ·rw [if_pos (by omega)]
   by_cases h4:k<40
   ·rw [if_pos (by omega),Aj h,Ai k (by omega)]
    have hk:k<(l.take 40).length:=by rw [bE];omega
    rw [Cs (l.take 40) k hk,all_cons,getElem_take]
    by_cases h5:l[k].fText.size<=128
    ·rw [if_neg (by omega),z89 n l K m (k+1) (by omega) (by omega) (by omega)]
     simp [h5]
    grind
   grind
  ·rw [if_neg (by omega),aB (by rw [bE];omega)];simp
theorem zl2 (n:Nat)(l:List A4)(hn:41<=n):Og n l=some (few1 l):=by
 unfold Og few1
 have:=z89 n l (some (decide ((((List.map A6 l).length:Nat):Int)<40))) n 0 (by omega) (by omega) (by omega)
 simp only [aJ,aX] at this
 rw [this]
 simp only [aA]
 split
 ·rename_i h;rw [h];simp;omega
 ·rename_i h;simp only [bP] at h;rw [h];rfl
def fewE (l:List Ev):Bool:=(l.take 20).all (fun e=>decide (e.fValues.length<=12) && few1 e.fValues) && decide (l.length<=12)
theorem z87 (n:Nat)(l:List Ev)(K:Option Bool)(hn:41<=n):∀ (m k:Nat),k<=l.length->k<=20->20<m+k->L9 n l K m k=if ((l.take 20).drop k).all (fun e=>decide (e.fValues.length<=12) && few1 e.fValues) then K else some false
 |0,k,h1,h2,h3=>by omega
 |m+1,k,h1,h2,h3=>by
  unfold L9
  simp only [aA,A3,Ak]
  by_cases h:k<l.length
  ·rw [if_pos (by omega)]
   by_cases h4:k<20
   ·rw [if_pos (by omega),Aj h,Ai k (by omega)]
    have hk:k<(l.take 20).length:=by rw [bE];omega
    rw [Cs (l.take 20) k hk,all_cons,getElem_take]
    by_cases h5:l[k].fValues.length<=12
    ·rw [if_neg (by omega),Aj h,zl2 n _ hn,A0,Af,z87 n l K hn m (k+1) (by omega) (by omega) (by omega)]
     grind
    grind
   grind
  ·rw [if_neg (by omega),aB (by rw [bE];omega)];simp
theorem zl1 (n:Nat)(l:List Ev)(hn:41<=n):Oe n l=some (fewE l):=by
 unfold Oe fewE
 have:=z87 n l (some (decide ((((List.map Am l).length:Nat):Int)<=12))) hn n 0 (by omega) (by omega) (by omega)
 simp only [aJ,aX] at this
 rw [this]
 simp only [aA]
 split
 ·rename_i h;rw [h];simp;omega
 ·rename_i h;simp only [bP] at h;rw [h];rfl
def N3:List Ev->Ev->Bool
 |[],_=>false
 |x::_,e=>decide (0<=C6 x e)
def chk:List Ev->List Ev->Int
 |_,[]=>0
 |p,e::r=>if D3 e=false then 2 else if N3 p e=true then 14 else if p.any (fun x=>decide (idt x=idt e)) then 7 else chk (e::p) r
def G8 (l:List Ev):Int:=if 4096<l.length then 5 else chk [] l
def Qi (m:List (Fo×Bool))(p:List Ev):Prop:=∀ k,(mlk m k).getD false=p.any (fun x=>decide (idt x=k))
variable {κ ν:Type}
theorem zh5 [DecidableEq κ](l:List (κ×ν))(k:κ)(v:ν)(k':κ):mlk (mput l k v) k'=if k'=k then some v else mlk l k':=by
 induction l with
 |nil=>simp [mput,mlk]
 |cons a r ih =>
  obtain ⟨a,x⟩:=a
  simp only [mput]
  by_cases h:k=a
  ·subst h
   rw [if_pos rfl]
   simp only [mlk]
   simp_all
  ·rw [if_neg h]
   simp only [mlk,ih]
   grind
theorem Qi.put {m:List (Fo×Bool)}{p:List Ev}(h:Qi m p)(e:Ev):Qi (mput m (idt e) true) (e::p):=fun k=>by
 rw [zh5,any_cons]
 by_cases hk:k=idt e
 ·subst hk;simp
 ·rw [if_neg hk,h k]
  grind
variable {l:List Ev}{k:Nat}
theorem Vx (h:k<l.length):(l.take (k+1)).reverse=l[k]::(l.take k).reverse:=by
 simp_all
theorem zge (h0:0<k)(h:k<=l.length):∃ t,(l.take k).reverse=l[k-1]::t:=by
 obtain ⟨j,rfl⟩:∃ j,k=j+1:=⟨k-1,by omega⟩
 exact ⟨_,by rw [Vx (by omega)];rfl⟩
theorem ze6 (h0:0<k)(h:k<=1000000):aZ .i64 ((k:Int)-1)=((k-1:Nat):Int):=by rw [C0 _ (by omega)];omega
theorem K2 [DecidableEq κ](l:List (κ×ν))(k:κ)(z:ν)(c:ν->Bool->Option β):mgt l k z c=c ((mlk l k).getD z) (mlk l k).isSome:=by unfold mgt;rfl
theorem Dm [DecidableEq κ](l:List (κ×ν))(k:κ)(v:ν)(c:List (κ×ν)->Option β):mst l k v c=c (mput l k v):=by unfold mst;rfl
theorem zc3 (n:Nat)(hn4:4<=n)(l:List Ev):∀ (m k:Nat) (seen:List (Fo×Bool)),k<=l.length->l.length<=1000000->l.length<m+k->Qi seen (l.take k).reverse ->
  J8 n l (some 0) m ((k:Int),seen)=some (chk (l.take k).reverse (l.drop k))
 |0,k,_,h1,h2,h3,_=>by omega
 |m+1,k,seen,h1,h2,h3,hs=>by
  unfold J8
  simp only [aA,A3,Ak]
  by_cases h:k<l.length
  ·rw [if_pos (by omega),Aj h,Ai k (by omega)]
   rw [Cs l k h]
   conv=>rhs;unfold chk
   have hs':Qi (mput seen (idt l[k]) true) (l.take (k+1)).reverse:=by rw [Vx h];exact hs.put _
   have ih:=zc3 n hn4 l m (k+1) _ (by omega) h2 (by omega) hs'
   rw [Vx h] at ih
   have hseen:=hs (idt l[k])
   simp only [zgs,A0,zm9,Af,K2,Dm,hseen,zma n hn4]
   by_cases hp:D3 l[k]=true
   ·have hp':¬D3 l[k]=false:=by rw [hp];simp
    rw [if_pos hp,if_neg hp']
    by_cases hk0:0<k
    ·rw [if_pos (by omega),ze6 hk0 (by omega),Aj (by omega:k-1<l.length)]
     obtain ⟨t,ht⟩:=zge (l:=l) hk0 h1
     try simp only [A0,decide_eq_true_eq]
     rw [ht] at ih ⊢
     simp only [N3,decide_eq_true_eq]
     grind
    ·have hk:k=0:=by omega
     subst hk
     rw [if_neg (by omega)]
     simp only [take_zero,reverse_nil,any_nil,N3,Bool.false_eq_true,if_false] at ih ⊢
     rw [ih]
   ·have hp':D3 l[k]=false:=by simpa using hp
    rw [if_neg hp,if_pos hp']
  ·rw [if_neg (by omega),aB (by omega)];rfl
theorem zmb (n:Nat)(l:List Ev)(hn:l.length<n)(hn4:4<=n)(h2:l.length<=1000000):Pf n l=some (G8 l):=by
 unfold Pf G8
 simp only [aA,A3]
 by_cases h:4096<l.length
 ·rw [if_pos (by omega),if_pos h]
 ·rw [if_neg (by omega),if_neg h]
  have:=zc3 n hn4 l n 0 [] (by omega) h2 (by omega) (fun k=>rfl)
  simpa using this
abbrev Rf:=Da
abbrev N0:Nat:=2000000000
abbrev ev0:Ev:=⟨0,0,0,0,[]⟩
theorem Mz [DecidableEq κ](l:List (κ×ν))(k:κ)(z:ν)(c:ν->Bool->Option β):mgv l k z c=c ((mlk l k).getD z) (mlk l k).isSome:=by unfold mgv;rfl
theorem zco:∀ (l p:List Ev),chk p l=0->(∀ e∈l,D3 e=true)/\Str C6 l/\(∀ h t,p=h::t->∀ e∈l,C6 h e<0)
 |[],p,_=>⟨by simp,by simp [Str],by simp⟩
 |e::l,p,h=>by
  unfold chk at h
  split at h
  ·cases h
  split at h
  ·cases h
  split at h
  ·cases h
  rename_i h1 h2 h3
  obtain ⟨a1,a2,a3⟩:=zco l (e::p) h
  have h4:=a3 e p rfl
  refine ⟨fun x hx=>?_,aV.2 ⟨h4,a2⟩,fun q t hq x hx=>?_⟩
  ·grind
  ·have h5:C6 q e<0:=by
    subst hq
    simp only [N3] at h2
    simpa using h2
   rcases aL.1 hx with k|k
   ·rw [k];exact h5
   ·exact Tk.trans _ _ _ h5 (h4 x k)
structure zlw (l:List Ev):Prop where
 pl:∀ e∈l,D3 e=true
 st:Str C6 l
 ln:l.length<=4096
theorem za4 (h:G8 l=0):zlw l:=by
 unfold G8 at h
 split at h
 ·cases h
 ·obtain ⟨a,b,_⟩:=zco l [] h
  exact ⟨a,b,by omega⟩
def lkH (held:List Ev)(r:Rf):Option Ev:=held.find? (fun e=>decide (Dr e=r))
variable {held:List Ev}{e:Ev}
theorem zf9 {r:Rf}(h:lkH held r=some e):Dr e=r/\e∈held:=by
 have h1:=find?_some h
 exact ⟨by simpa using h1,mem_of_find?_eq_some h⟩
theorem zfa (h:Str C6 held)(he:e∈held):lkH held (Dr e)=some e:=by
 unfold lkH
 induction held with
 |nil=>simp at he
 |cons x l ih =>
  obtain ⟨h1,h2⟩:=aV.1 h
  rw [find?_cons]
  rcases aL.1 he with k|k
  ·rw [k];simp
  ·have:Dr x≠Dr e:=fun q=>Tk.lt_ne (h1 e k) q
   simp only [this,decide_false]
   exact ih h2 k
theorem zjp (a b:List Ev)(r:Rf):lkH (a++b) r=(lkH a r).or (lkH b r):=by unfold lkH;rw [find?_append]
def addB (held:List Ev)(vs:List (List Ev))(b:Bd):List (List Ev):=match lkH held b.fRef with|some e=>(if 0<=b.fVar/\b.fVar.toNat<vs.length then vs.set b.fVar.toNat (vs.getD b.fVar.toNat []++[e]) else vs)|none=>vs
def bndV (held:List Ev)(m:Nat)(l:List Bd):List (List Ev):=l.foldl (addB held) (aY m [])
def ev1 (held:List Ev)(l:List Bd)(v:Int):List Ev:=l.filterMap (fun b=>if b.fVar=v then lkH held b.fRef else none)
abbrev enH (held:List Ev)(l:List Bd):List (List Ev):=bndV held 16 l
def BdOk (held:List Ev)(x:Int)(l:List Bd):Prop:=∀ b∈l,(0<=b.fVar/\b.fVar<x)/\(lkH held b.fRef).isSome=true
def trR (a:List (List Ev))(e:Exn)(own:Int)(ev:Ev):Bool:=(Uj N0 e ⟨a⟩ own ev).getD false
def vio (a:List (List Ev))(e:Ev)(g:Gd):Bool:=decide (g.fType=e.fType) && trR a g.fCond g.fVar e
abbrev Lim:=Bz
def SS (l:List Sta):Prop:=l.Pairwise (fun x y=>x.fScope<y.fScope)
def opS (l:List Sta)(s t:Int):List Sta:=l.filter (fun x=>decide (x.fScope<s))++(⟨s,t⟩:Sta)::l.filter (fun x=>decide (s<x.fScope))
theorem opS_mem {l:List Sta}{s t:Int}{x:Sta}(h:x∈opS l s t):x=⟨s,t⟩\/x∈l:=by
 unfold opS at h
 grind
theorem zl8 {l:List Sta}(h:SS l)(s t:Int):SS (opS l s t):=by
 unfold opS SS
 rw [pairwise_append]
 refine ⟨h.filter _,aV.2 ⟨fun x hx=>by simp_all,h.filter _⟩,fun x hx y hy=>?_⟩
 grind
theorem zji (l:List Sta)(s t:Int):(opS l s t).length<=l.length+1:=by
 unfold opS
 rw [aW,bF]
 induction l with
 |nil=>simp
 |cons x l ih =>
  grind
def keP (l:List Sta)(t:Int)(x:Lim):Bool:=match l.find? (fun s=>decide (s.fScope=x.fScope)) with|some s=>decide (aZ .i64 (t-s.fTime)<=x.fSpan)|none=>false
theorem W9 (a b:Int):cmpI a b<0 ↔ a<b:=by unfold cmpI;split<;>(try split)<;>omega
def opL (l:List Sta)(ss:List Int)(t:Int):List Sta:=ss.foldl (fun l s=>opS l s t) l
theorem zi7 (t:Int):∀ (ss:List Int) {l:List Sta},SS l->SS (opL l ss t)
 |[],_,h=>h
 |s::ss,l,h=>zi7 t ss (zl8 h s t)
theorem zf0 (t:Int):∀ (ss:List Int) (l:List Sta),(opL l ss t).length<=l.length+ss.length
 |[],l=>by simp [opL]
 |s::ss,l=>by
  have h1:=zf0 t ss (opS l s t)
  have h2:=zji l s t
  have h3:opL l (s::ss) t=opL (opS l s t) ss t:=rfl
  rw [h3,bF];omega
theorem opL_mem (t:Int):∀ (ss:List Int) {l:List Sta} {x:Sta},x∈opL l ss t->(x.fScope∈ss/\x.fTime=t)\/x∈l
 |[],l,x,h=>aE h
 |s::ss,l,x,h=>by
  rcases opL_mem t ss (l:=opS l s t) h with k|k
  ·simp_all
  ·rcases opS_mem k with q|q
   all_goals simp_all
def clP (cs:List Int)(x:Sta):Bool:=cs.any fun y=>decide (x.fScope=y)
abbrev ncl (x:Ed)(s:Sta):Bool:=!clP x.fCloses s
abbrev cf0:Cf:=⟨0,[],[]⟩
def hasI (l:List Int)(n:Int):Bool:=l.any fun y=>decide (n=y)
def zcc (a:Aut)(s:Int):List Gd:=match a.fStates[s.toNat]? with|some s=>s.fGuards|none=>[]
def chE (x:Ed):List Exn:=x.fChecks.filterMap Bs
def ckP (x:Ed)(env:List (List Ev)):Bool:=(chE x).all (fun y=>trR env y (-1) ev0)
def gdP (a:Aut)(c:Cf)(x:Ed)(env:List (List Ev))(e:Ev):Bool:=(zcc a c.fState).any (fun g=>!hasI x.fInside g.fScope && vio env e g)
def stN (c:Cf)(x:Ed)(e:Ev):List Sta:=opL c.fStarts x.fOpens e.fTime
def bdN (c:Cf)(x:Ed)(e:Ev):List Bd:=c.fBindings++[⟨x.fVar,Dr e⟩]
def coP (a:Aut)(held:List Ev)(c:Cf)(x:Ed)(e:Ev):Option Cf :=
 if x.fType=e.fType/\gdP a c x (enH held c.fBindings) e=false/\trR (enH held c.fBindings) x.fCond x.fVar e=true/\x.fLimits.all (keP (stN c x e) e.fTime)=true/\ckP x (enH (e::held) (bdN c x e))=true then some ⟨x.fTo,bdN c x e,(stN c x e).filter (ncl x)⟩ else none
structure CB (held:List Ev) (a:Aut) (k:Nat) (c:Cf):Prop where
 st:0<=c.fState/\c.fState<a.fStates.length
 bd:BdOk held a.fVars c.fBindings
 ss:SS c.fStarts
 lb:c.fBindings.length<=k
 ls:c.fStarts.length<=100*k
structure CxA (a:Aut) (held:List Ev):Prop where
 wf:WfA a
 ok:AOk a
 lo:∀ x∈a.fEdges,x.fOpens.length<=100
 lh:held.length<=10000
variable {x:Ed}
theorem zju {ys:List Exn}(h:x.fChecks=ys.map Ag)(hk:k<ys.length)(Q:Exn->Option β):idxD Bs x.fChecks (k:Int) Q=Q ys[k]:=by
 unfold idxD
 rw [if_pos (by omega),h]
 simp [hk,Pa]
abbrev Mp:=List (Int×Bool)
section
variable {β:Type}
theorem zls {ix:List (Option Nat)}{os:List Mp}{j:Nat}{l:Mp}(hl:os[j]? = some l)(hs:Srt l)(k:Int)(v:Bool)(c:Ars Mp->Option β):aup (ix,os) j k v c=c (ix,os.set j (sput l k v)):=by
 unfold aup
 simp only [hl]
 rw [if_pos (show (l.map (·.1)).Pairwise (· < ·) from hs)]
theorem zlb {n:Nat}(h:n<=1000000)(k:Nat->Option β):mkm (n:Int) 8 k=k n:=by unfold mkm;grind
theorem zlu (i:Nat)(x:Option β):are i x=x:=by unfold are;rfl
end
structure Gb (l:Mp):Prop where
 srt:Srt l
 all:∀ p∈l,p.2=true/\0<=p.1/\p.1<16
def has (l:Mp)(v:Int):Prop:=v∈l.map (·.1)
theorem zbf {l:Mp}{k:Int}{v:Bool}:∀ p,p∈sput l k v->p=(k,v)\/p∈l:=by
 induction l with
 |nil=>intro p hp;simpa [sput] using hp
 |cons q r ih =>
  obtain ⟨a,b⟩:=q
  intro p hp
  simp only [sput] at hp
  grind
variable {v:Int}
theorem Gb.put {l:Mp}(h:Gb l)(hv:0<=v/\v<16):Gb (sput l v true) :=
 ⟨Mm h.srt,fun p hp=>(zbf p hp).elim (fun e=>by rw [e];exact ⟨rfl,hv⟩) (h.all p)⟩
theorem has_put {l:Mp}{x:Int}:has (sput l v true) x ↔ x=v\/has l x:=zbe x
structure OsOk (k:Nat) (os:List Mp):Prop where
 len:os.length=k
 map:∀ l∈os,Gb l
def hasO (os:List Mp)(s:Nat)(v:Int):Prop:=∃ l,os[s]? = some l/\has l v
variable {os:List Mp}
theorem OsOk.at (h:OsOk k os){s:Nat}(hs:s<k):∃ l,os[s]? = some l/\Gb l:=by
 have hs':s<os.length:=by rw [h.len];exact hs
 exact ⟨os[s],aD hs',h.map _ (aH hs')⟩
theorem OsOk.put (h:OsOk k os){s:Nat}{l:Mp}(hl:os[s]? = some l)(hv:0<=v/\v<16):OsOk k (os.set s (sput l v true))/\∀ t x,hasO (os.set s (sput l v true)) t x ↔ hasO os t x\/(t=s/\x=v):=by
 obtain ⟨hs,hg⟩:=List.getElem?_eq_some_iff.1 hl
 have hm:Gb l:=by rw [<-hg];exact h.map _ (aH hs)
 refine ⟨⟨by rw [bA];exact h.len,fun q hq=>?_⟩,fun t x=>?_⟩
 ·rcases aO hq with h'|h'
  ·exact h.map q h'
  ·rw [h'];exact hm.put hv
 ·unfold hasO
  rw [aQ]
  by_cases e:s=t
  ·subst e
   rw [if_pos rfl,if_pos hs]
   constructor
   ·rintro ⟨q,hq,hx⟩
    injection hq with hq
    subst hq
    exact (has_put.1 hx).elim (fun e=>aE ⟨rfl,e⟩) (fun hx=>aF ⟨l,hl,hx⟩)
   ·rintro (⟨q,hq,hx⟩|⟨_,e⟩)
    ·rw [hl] at hq;injection hq with hq;subst hq
     exact ⟨_,rfl,has_put.2 (aE hx)⟩
    ·exact ⟨_,rfl,has_put.2 (aF e)⟩
  grind
def OccV (v:Int)(e:Exn):Prop:=∃ i:Nat,i<16/\v=(i:Int)/\Occ i e
theorem Wu {es:List Exn}(h:k<es.length)(K:Exn->Option β):idxD Bs (es.map Ag) (k:Int) K=K es[k]:=by
 unfold idxD
 rw [if_pos (by omega)]
 simp only [aM,getElem?_map,aD h,Option.map_some,Pa]
def OwnG (a:Aut)(t:Nat)(x:Int):Prop:=∃ st,a.fStates[t]? = some st/\∃ g∈st.fGuards,OccV x g.fCond
def OwnX (ed:Ed)(x:Int):Prop:=∃ e∈chE ed++[ed.fCond],OccV x e
def OwnV (a:Aut)(t:Nat)(x:Int):Prop:=OwnG a t x\/∃ ed∈a.fEdges,ed.fFrom=(t:Int)/\OwnX ed x
inductive Rd (a:Aut):Nat->Int->Prop
 |own (t:Nat) (x:Int) (h:OwnV a t x):Rd a t x
 |step (ed:Ed) (he:ed∈a.fEdges) (t s:Nat) (x:Int) (ht:ed.fFrom=(t:Int)) (hs:ed.fTo=(s:Int)) (h:Rd a s x):Rd a t x
theorem zd9 {x:Int}{e:Exn}(h:OccV x e):0<=x/\x<16:=by obtain ⟨i,hi,e,_⟩:=h;omega
variable {a:Aut}
theorem zd8 {t:Nat}{x:Int}(h:OwnV a t x):0<=x/\x<16:=by
 rcases h with ⟨_,_,_,_,h⟩|⟨_,_,_,_,_,h⟩<;>exact zd9 h
theorem zgf {t:Nat}{x:Int}(h:Rd a t x):0<=x/\x<16:=by
 induction h with
 |own t x h=>exact zd8 h
 |step _ _ _ _ _ _ _ _ ih=>exact ih
theorem zf7:Gb []:=⟨by simp [Srt],by simp⟩
theorem OsOk.push (h:OsOk k os):OsOk (k+1) (os++[[]]):=⟨by rw [aW,h.len];rfl,fun l hl=>(aK.1 hl).elim (h.map l) (fun hl=>by rw [aG.1 hl];exact zf7)⟩
open Classical in
inductive Bk (bk:List (List Int)):Nat->Nat->Prop
 |refl (s:Nat):Bk bk s s
 |step (t y s:Nat) (h:(y:Int)∈bk.getD s []) (ht:Bk bk t y):Bk bk t s
structure BkOk (n:Nat) (bk:List (List Int)):Prop where
 len:bk.length=n
 big:∀ q∈bk,q.length<=1100000
 mem:∀ q∈bk,∀ y∈q,0<=y/\y<(n:Int)
structure Sp (n:Nat) (bk:List (List Int)) (v:Int) (os:List Mp) (ss:Nat->Prop) (os':List Mp):Prop where
 ok:OsOk n os'
 mono:∀ t x,hasO os t x->hasO os' t x
 snd:∀ t x,hasO os' t x->hasO os t x\/(x=v/\∃ s,ss s/\Bk bk t s)
 mark:∀ s,ss s->hasO os' s v
 clo:∀ t,hasO os' t v->hasO os t v\/∀ y:Nat,(y:Int)∈bk.getD t []->hasO os' y v
section
variable {β α:Type}
theorem Q9 (a b:Option β):nxt ([]:List α) a b=a:=by unfold nxt;rfl
theorem Q6 (x:α)(l:List α)(a b:Option β):nxt (x::l) a b=b:=by unfold nxt;rfl
end
structure Mk (a:Aut) (bk:List (List Int)) (os:List Mp):Prop where
 ok:OsOk a.fStates.length os
 snd:∀ t x,hasO os t x->Rd a t x
 clo:∀ t x,hasO os t x->∀ y:Nat,(y:Int)∈bk.getD t []->hasO os y x
structure BkA (a:Aut) (bk:List (List Int)):Prop where
 ok:BkOk a.fStates.length bk
 mem:∀ (t y:Nat),t<a.fStates.length->((y:Int)∈bk.getD t [] ↔ ∃ ed∈a.fEdges,ed.fTo=(t:Int)/\ed.fFrom=(y:Int))
open Classical in
noncomputable def Ql (a:Aut):List Mp:=(range a.fStates.length).map fun t=>((range 16).filter (fun i:Nat=>decide (Rd a t (i:Int)))).map (fun i:Nat=>((i:Int),true))
open Classical in
theorem zhw (a:Aut):OsOk a.fStates.length (Ql a)/\∀ t x,hasO (Ql a) t x ↔ t<a.fStates.length/\Rd a t x:=by
 unfold Ql
 refine ⟨⟨by simp,fun l hl=>?_⟩,fun t x=>?_⟩
 ·obtain ⟨t,_,rfl⟩:=bL.1 hl
  refine ⟨?_,fun p hp=>?_⟩
  ·unfold Srt
   rw [map_map,pairwise_map]
   refine Pairwise.imp (fun {a b} (h:a<b)=>?_) (pairwise_lt_range.filter _)
   simp_all
  grind
 ·unfold hasO has
  constructor
  ·grind
  ·rintro ⟨h1,h2⟩
   refine ⟨_,by rw [getElem?_map,getElem?_range h1];rfl,?_⟩
   rw [map_map]
   have hb:=zgf h2
   refine bL.2 ⟨x.toNat,bB.2 ⟨mem_range.2 (by omega),?_⟩,?_⟩
   all_goals grind
theorem Gb.len {l:Mp}(h:Gb l):l.length<=16:=by
 have s:Str cmpI (l.map (·.1)):=h.srt.imp (fun q=>(W9 _ _).2 q)
 have key:∀ (q:List Int) (c:Int),q.Pairwise (· < ·)->(∀ x∈q,c<=x/\x<16)->(q.length:Int)<=max 0 (16-c):=fun q=>by
  induction q with
  |nil=>intro c _ _;simp;omega
  |cons y r ih =>
   intro c hp hb
   have h1:=hb y (by simp)
   obtain ⟨p1,p2⟩:=aV.1 hp
   have:=ih (y+1) p2 (fun x hx=>by grind)
   grind
 have:=key (l.map (·.1)) 0 (show (l.map (·.1)).Pairwise (· < ·) from h.srt) (fun x hx=>by
  obtain ⟨p,hp,rfl⟩:=bL.1 hx
  exact (h.all p hp).2)
 grind
theorem Te {α:Type}[DecidableEq α]:∀ {l l':List α},l.Nodup->(∀ x∈l,x∈l')->l.length<=l'.length
 |[],l',_,_=>Nat.zero_le _
 |a::l,l',h,hs=>by
  have ha:=hs a (by simp)
  have:=Te (l:=l) (l':=l'.erase a) (bI.1 h).2 (fun x hx=>(mem_erase_of_ne (fun (e:x=a)=>(bI.1 h).1 (e▸hx))).2 (hs x (bC _ hx)))
  rw [length_erase_of_mem ha] at this
  have:=length_pos_of_mem ha
  simp only [bF];omega
structure MK (l:Mp):Prop where
 nd:(l.map (·.1)).Nodup
 tr:∀ p∈l,p.2=true
theorem MK.nil:MK []:=⟨List.nodup_nil,by simp⟩
theorem Dk (v:Int):¬has ([]:Mp) v:=by simp [has]
theorem Dj (p:Int×Bool)(r:Mp)(v:Int):has (p::r) v ↔ v=p.1\/has r v:=by simp [has]
theorem zh4 {l:Mp}(h:¬has l v):mlk l v=none:=by
 induction l with
 |nil=>rfl
 |cons p r ih =>
  obtain ⟨a,b⟩:=p
  rw [Dj,not_or] at h
  unfold mlk
  rw [if_neg h.1]
  exact ih h.2
theorem MK.tail {p:Int×Bool}{r:Mp}(h:MK (p::r)):MK r:=⟨(bI.1 h.nd).2,fun q hq=>h.tr q (bC _ hq)⟩
theorem MK.some {l:Mp}(h:MK l)(q:has l v):mlk l v=some true:=by
 induction l with
 |nil=>exact absurd q (Dk v)
 |cons p r ih =>
  have hb:=h.tr p (by simp)
  have ht:=h.tail
  obtain ⟨a,b⟩:=p
  unfold mlk
  by_cases e:v=a
  ·rw [if_pos e];simp only at hb;rw [hb]
  ·rw [if_neg e]
   exact ih ht (((Dj _ _ _).1 q).resolve_left e)
theorem MK.get {l:Mp}(h:MK l)(v:Int):(mlk l v).getD false=true ↔ has l v:=by
 by_cases q:has l v
 ·rw [h.some q];simp [q]
 ·rw [zh4 q];simp [q]
theorem Wc {l:Mp}{k:Int}(h:¬has l k):mput l k true=l++[(k,true)]:=by
 induction l with
 |nil=>rfl
 |cons p r ih =>
  obtain ⟨a,b⟩:=p
  rw [Dj,not_or] at h
  unfold mput
  rw [if_neg h.1,ih h.2]
  rfl
theorem MK.put_in {l:Mp}(h:MK l){k:Int}(q:has l k):mput l k true=l:=by
 induction l with
 |nil=>exact absurd q (Dk k)
 |cons p r ih =>
  have hb:=h.tr p (by simp)
  have ht:=h.tail
  obtain ⟨a,b⟩:=p
  unfold mput
  simp only at hb
  by_cases e:k=a
  ·rw [if_pos e,hb,e]
  ·rw [if_neg e,ih ht (((Dj _ _ _).1 q).resolve_left e)]
theorem MK.has_put {l:Mp}(h:MK l)(k v:Int):has (mput l k true) v ↔ v=k\/has l v:=by
 by_cases q:has l k
 ·rw [h.put_in q]
  exact ⟨aE,fun e=>e.elim (fun e=>e▸q) id⟩
 ·rw [Wc q]
  simp only [has,map_append,aK,bM,map_nil,aG]
  exact Or.comm
theorem MK.put {l:Mp}(h:MK l)(k:Int):MK (mput l k true):=by
 by_cases q:has l k
 ·rw [h.put_in q];exact h
 ·rw [Wc q]
  refine ⟨?_,fun p hp=>?_⟩
  ·rw [map_append,nodup_append]
   refine ⟨h.nd,by simp,fun a ha b hb=>?_⟩
   simp only [bM,map_nil,aG] at hb
   rw [hb]
   exact fun e=>q (e▸ha)
  ·rcases aK.1 hp with hp|hp
   ·exact h.tr p hp
   ·rw [aG] at hp;rw [hp]
instance decHas (l:Mp)(v:Int):Decidable (has l v):=inferInstanceAs (Decidable (v∈l.map (·.1)))
theorem MK.put_len {l:Mp}(h:MK l)(k:Int):(mput l k true).length=if has l k then l.length else l.length+1:=by
 by_cases q:has l k
 ·rw [h.put_in q,if_pos q]
 ·rw [Wc q,if_neg q];simp
theorem MK.perm {l l':Mp}(h:MK l)(p:l.Perm l'):MK l':=⟨((p.map _).nodup_iff).1 h.nd,fun q hq=>h.tr q (p.mem_iff.2 hq)⟩
theorem Mn {l l':Mp}(p:l.Perm l')(v:Int):has l v ↔ has l' v:=(p.map _).mem_iff
theorem MK.out {l:Mp}(h:MK l){j:Nat}(hj:j<l.length):MK (l.eraseIdx j)/\¬has (l.eraseIdx j) l[j].1/\∀ v,has l v ↔ v=l[j].1\/has (l.eraseIdx j) v:=by
 have p:(l[j]::l.eraseIdx j).Perm l:=He hj
 have h':=h.perm p.symm
 refine ⟨h'.tail,fun q=>(bI.1 h'.nd).1 q,fun v=>?_⟩
 rw [<-Dj]
 exact Mn p.symm v
theorem zil {l l':Mp}(h:Srt l)(h':Srt l')(t:∀ p∈l,p.2=true)(t':∀ p∈l',p.2=true)(hk:∀ x,has l x ↔ has l' x):l=l':=by
 have s1:Str cmpI (l.map (·.1)):=h.imp (fun q=>(W9 _ _).2 q)
 have s2:Str cmpI (l'.map (·.1)):=h'.imp (fun q=>(W9 _ _).2 q)
 have e:=Str.uniq Hh s1 s2 hk
 have f:∀ q:Mp,(∀ p∈q,p.2=true)->q=(q.map (·.1)).map (fun x=>(x,true)):=fun q hq=>by
  rw [map_map]
  conv=>lhs;rw [<-map_id q]
  exact map_congr_left (fun p hp=>by have:=hq p hp;cases p;simp_all)
 rw [f l t,f l' t',e]
theorem MK.sort {l:Mp}(h:MK l):MK (C1 l)/\Srt (C1 l)/\(C1 l).length=l.length/\∀ v,has (C1 l) v ↔ has l v :=
 ⟨h.perm (Q0 h.nd).symm,T5 l,(Q0 h.nd).length_eq,Mn (Q0 h.nd)⟩
theorem Ux (n:Nat)(s:Int)(a:Aut)(hl:a.fEdges.length<=1100000):∀ (m k:Nat) (acc:List Int),k<=a.fEdges.length->a.fEdges.length<m+k->acc.length<=k->∃ L,Il n s a (fun y=>some y) m ((k:Int),acc)=some L/\L.length<=a.fEdges.length/\∀ i:Int,i∈L ↔ i∈acc\/∃ j:Nat,k<=j/\i=(j:Int)/\∃ x,a.fEdges[j]? = some x/\x.fFrom=s
 |0,k,acc,h1,h2,h3=>by omega
 |m+1,k,acc,h1,h2,h3=>by
  unfold Il
  simp only [aA,A3,Aa]
  by_cases h:k<a.fEdges.length
  ·rw [if_pos (by omega),Aj h,Ai k (by omega)]
   have hk:a.fEdges[k]? = some a.fEdges[k]:=aD h
   by_cases q:a.fEdges[k].fFrom=s
   ·rw [if_pos q,Bv (by simp;omega) (by decide)]
    obtain ⟨L,e1,e2,e3⟩:=Ux n s a hl m (k+1) (acc++[(k:Int)]) (by omega) (by omega) (by simp;omega)
    refine ⟨L,e1,e2,fun i=>?_⟩
    rw [e3,aK,aG]
    constructor
    ·rintro ((h|h)|⟨j,j1,j2⟩)
     ·exact aF h
     ·exact aE ⟨k,aS _,h,_,hk,q⟩
     ·exact aE ⟨j,by omega,j2⟩
    ·rintro (h|⟨j,j1,j2,j3⟩)
     ·exact aF (aF h)
     ·by_cases e:j=k
      ·subst e;exact aF (aE j2)
      ·exact aE ⟨j,by omega,j2,j3⟩
   ·rw [if_neg q]
    obtain ⟨L,e1,e2,e3⟩:=Ux n s a hl m (k+1) acc (by omega) (by omega) (by omega)
    refine ⟨L,e1,e2,fun i=>?_⟩
    rw [e3]
    constructor
    ·rintro (h|⟨j,j1,j2⟩)
     ·exact aF h
     ·exact aE ⟨j,by omega,j2⟩
    ·rintro (h|⟨j,j1,j2,x,j3,j4⟩)
     ·exact aF h
     ·by_cases e:j=k
      ·subst e;rw [hk] at j3;injection j3 with j3;exact absurd (j3▸j4) q
      ·exact aE ⟨j,by omega,j2,x,j3,j4⟩
  ·rw [if_neg (by omega)]
   refine ⟨acc,rfl,by omega,fun i=>⟨aF,fun h=>h.elim id fun ⟨j,j1,j2,x,j3,_⟩=>?_⟩⟩
   have:=(List.getElem?_eq_some_iff.1 j3).1
   omega
theorem Zy (n:Nat)(hn:10000000<n)(s:Int)(a:Aut)(hl:a.fEdges.length<=1100000):∃ L,Ot n a s=some L/\L.length<=a.fEdges.length/\∀ i:Int,i∈L ↔ ∃ j:Nat,i=(j:Int)/\∃ x,a.fEdges[j]? = some x/\x.fFrom=s:=by
 obtain ⟨L,e1,e2,e3⟩:=Ux n s a hl n 0 [] (by omega) (by omega) (by simp)
 refine ⟨L,e1,e2,fun i=>?_⟩
 rw [e3]
 simp
def nxS (a:Aut)(s t:Int):Prop:=∃ x∈a.fEdges,x.fFrom=s/\x.fTo=t/\0<=t
def prS (a:Aut)(s t:Int):Prop:=∃ x∈a.fEdges,x.fTo=s/\x.fFrom=t
theorem V4 (n:Nat)(a:Aut)(L:List Int)(hL:L.length<=1100000)(hr:∀ i∈L,∃ j:Nat,i=(j:Int)/\j<a.fEdges.length):∀ (m k:Nat) (acc:List Int),k<=L.length->L.length<m+k->acc.length<=k->∃ R,Hr n a L (fun y=>some y) m ((k:Int),acc)=some R/\R.length<=L.length/\∀ t:Int,t∈R ↔ t∈acc\/∃ i∈L.drop k,∃ j:Nat,i=(j:Int)/\∃ x,a.fEdges[j]? = some x/\x.fTo=t/\0<=t
 |0,k,acc,h1,h2,h3=>by omega
 |m+1,k,acc,h1,h2,h3=>by
  unfold Hr
  simp only [aA,A3,Aa]
  by_cases h:k<L.length
  ·obtain ⟨j,j1,j2⟩:=hr L[k] (aH h)
   have hj:a.fEdges[j]? = some a.fEdges[j]:=aD j2
   rw [if_pos (by omega),Aj h,Ai k (by omega),j1,Aj j2,aC h]
   simp only [aL,exists_eq_or_imp]
   have key:∀ t:Int,(∃ i:Nat,L[k]=(i:Int)/\∃ x,a.fEdges[i]? = some x/\x.fTo=t/\0<=t) ↔ (a.fEdges[j].fTo=t/\0<=t):=fun t=>by
    rw [j1]
    constructor
    ·rintro ⟨i,i1,x,i2,i3⟩
     have:i=j:=by omega
     rw [this,hj] at i2
     injection i2 with i2
     rw [i2];exact i3
    ·intro q;exact ⟨j,rfl,_,hj,q⟩
   simp only [key]
   by_cases q:0<=a.fEdges[j].fTo
   ·rw [if_pos q,Bv (by simp;omega) (by decide)]
    obtain ⟨R,e1,e2,e3⟩:=V4 n a L hL hr m (k+1) (acc++[a.fEdges[j].fTo]) (by omega) (by omega) (by simp;omega)
    refine ⟨R,e1,e2,fun t=>?_⟩
    rw [e3,aK,aG,or_assoc]
    refine or_congr aT (or_congr ⟨fun e=>⟨e.symm,e▸q⟩,fun e=>e.1.symm⟩ aT)
   ·rw [if_neg q]
    obtain ⟨R,e1,e2,e3⟩:=V4 n a L hL hr m (k+1) acc (by omega) (by omega) (by omega)
    refine ⟨R,e1,e2,fun t=>?_⟩
    rw [e3]
    refine or_congr aT ⟨aE,fun h=>h.elim (fun e=>absurd (e.1▸e.2) q) id⟩
  ·rw [if_neg (by omega),aB (by omega)]
   exact ⟨acc,rfl,by omega,fun t=>by simp⟩
theorem zgp (n:Nat)(hn:10000000<n)(s:Int)(a:Aut)(hl:a.fEdges.length<=1100000):∃ R,Nz n s a=some R/\R.length<=1100000/\∀ t:Int,t∈R ↔ nxS a s t:=by
 obtain ⟨L,e1,e2,e3⟩:=Zy n hn s a hl
 have hr:∀ i∈L,∃ j:Nat,i=(j:Int)/\j<a.fEdges.length:=fun i hi=>by
  obtain ⟨j,j1,x,j2,_⟩:=(e3 i).1 hi
  exact ⟨j,j1,(List.getElem?_eq_some_iff.1 j2).1⟩
 obtain ⟨R,f1,f2,f3⟩:=V4 n a L (by omega) hr n 0 [] (by omega) (by omega) (by simp)
 unfold Nz
 rw [e1,A0]
 refine ⟨R,f1,by omega,fun t=>?_⟩
 rw [f3]
 simp only [aX,not_mem_nil,false_or]
 constructor
 ·rintro ⟨i,hi,j,j1,x,j2,j3,j4⟩
  obtain ⟨j',j1',x',j2',j3'⟩:=(e3 i).1 hi
  have:j'=j:=by omega
  rw [this,j2] at j2'
  injection j2' with j2'
  exact ⟨x,mem_of_getElem? j2,j2'▸j3',j3,j4⟩
 ·rintro ⟨x,hx,x1,x2,x3⟩
  obtain ⟨j,hj,e⟩:=aP.1 hx
  have hj':a.fEdges[j]? = some x:=by rw [aD hj,e]
  exact ⟨(j:Int),(e3 _).2 ⟨j,rfl,x,hj',x1⟩,j,rfl,x,hj',x2,x3⟩
theorem Uv (n:Nat)(a:Aut)(s:Int)(hl:a.fEdges.length<=1100000):∀ (m k:Nat) (acc:List Int),k<=a.fEdges.length->a.fEdges.length<m+k->acc.length<=k->∃ R,Ic n a s (fun y=>some y) m ((k:Int),acc)=some R/\R.length<=a.fEdges.length/\∀ t:Int,t∈R ↔ t∈acc\/∃ x∈a.fEdges.drop k,x.fTo=s/\x.fFrom=t
 |0,k,acc,h1,h2,h3=>by omega
 |m+1,k,acc,h1,h2,h3=>by
  unfold Ic
  simp only [aA,A3,Aa]
  by_cases h:k<a.fEdges.length
  ·rw [if_pos (by omega),Aj h,Ai k (by omega),aC h]
   simp only [aL,exists_eq_or_imp]
   by_cases q:a.fEdges[k].fTo=s
   ·rw [if_pos q,Bv (by simp;omega) (by decide)]
    obtain ⟨R,e1,e2,e3⟩:=Uv n a s hl m (k+1) (acc++[a.fEdges[k].fFrom]) (by omega) (by omega) (by simp;omega)
    refine ⟨R,e1,e2,fun t=>?_⟩
    rw [e3,aK,aG,or_assoc]
    exact or_congr aT (or_congr ⟨fun e=>⟨q,e.symm⟩,fun e=>e.2.symm⟩ aT)
   ·rw [if_neg q]
    obtain ⟨R,e1,e2,e3⟩:=Uv n a s hl m (k+1) acc (by omega) (by omega) (by omega)
    refine ⟨R,e1,e2,fun t=>?_⟩
    rw [e3]
    exact or_congr aT ⟨aE,fun h=>h.elim (fun e=>absurd e.1 q) id⟩
  ·rw [if_neg (by omega),aB (by omega)]
   exact ⟨acc,rfl,by omega,fun t=>by simp⟩
theorem zep (n:Nat)(hn:10000000<n)(s:Int)(a:Aut)(hl:a.fEdges.length<=1100000):∃ R,S6 n s a=some R/\R.length<=1100000/\∀ t:Int,t∈R ↔ prS a s t:=by
 obtain ⟨R,f1,f2,f3⟩:=Uv n a s hl n 0 [] (by omega) (by omega) (by simp)
 refine ⟨R,f1,by omega,fun t=>?_⟩
 rw [f3]
 simp [prS]
def hs (m:List Bool)(t:Int):Prop:=0<=t/\m[t.toNat]? = some true
def fre (m:List Bool):Nat:=m.countP (fun b=>!b)
variable {m:List Bool}
theorem zfd (hi:i<m.length)(q:m[i]=false):fre (m.set i true)+1=fre m:=by
 unfold fre
 induction m generalizing i with
 |nil=>simp at hi
 |cons b r ih =>
  cases i with
  |zero=>simp only [bN] at q;subst q;simp
  |succ i =>
   simp only [bO] at q
   have:=ih (by simpa using hi) q
   simp only [set_cons_succ,countP_cons]
   omega
variable {w:List Bool}
theorem zia (hl:m.length=w.length)(h:∀ t,hs m t->hs w t):fre w<=fre m:=by
 unfold fre
 induction m generalizing w with
 |nil=>cases w with|nil=>simp|cons=>simp at hl
 |cons b r ih =>
  cases w with
  |nil=>simp at hl
  |cons c q =>
   have:=ih (w:=q) (by simpa using hl) (fun t ht=>by
    have:=h (t+1) ⟨by have:=ht.1;omega,by have:=ht.1;rw [show (t+1).toNat=t.toNat+1 by omega];simpa using ht.2⟩
    have h0:=ht.1
    refine ⟨h0,?_⟩
    have h2:=this.2
    rw [show (t+1).toNat=t.toNat+1 by omega] at h2
    simpa using h2)
   simp only [countP_cons]
   have hb:b=true->c=true:=fun e=>by
    have:=(h 0 ⟨by omega,by simp [e]⟩).2
    simpa using this
   cases b<;>cases c<;>simp_all<;>omega
theorem zi8 (hi:i<m.length)(t:Int):hs (m.set i true) t ↔ t=(i:Int)\/hs m t:=by
 unfold hs
 rw [aQ]
 by_cases e:t=(i:Int)
 ·subst e;simp [hi]
 ·constructor
  ·rintro ⟨h0,h1⟩
   rw [if_neg (by omega)] at h1
   exact aE ⟨h0,h1⟩
  ·rintro (h|⟨h0,h1⟩)
   ·exact absurd h e
   ·refine ⟨h0,?_⟩
    rw [if_neg (by omega)]
    exact h1
theorem zi9 (N:Nat)(t:Int):¬hs (aY N false) t:=by
 rintro ⟨_,h⟩
 rw [bJ] at h
 split at h<;>simp at h
structure Gr (P:Int->Int->Prop) (N:Nat) (w w':List Bool):Prop where
 len:w'.length=N
 mono:∀ t,hs w t->hs w' t
 clo:∀ t,hs w' t->hs w t\/∀ u,P t u->hs w' u
variable {P:Int->Int->Prop}{N:Nat}
theorem Gr.refl (h:w.length=N):Gr P N w w:=⟨h,fun _ h=>h,fun _ h=>aF h⟩
theorem Gr.trans {w1 w2:List Bool}(h:Gr P N w w1)(g:Gr P N w1 w2):Gr P N w w2 :=
 ⟨g.len,fun t q=>g.mono t (h.mono t q),fun t q=>(g.clo t q).elim (fun q=>(h.clo t q).elim aF (fun q=>aE fun u hu=>g.mono u (q u hu))) aE⟩
theorem zbx (n:Nat)(rF:Int->Aut->List Bool->Option (List Bool))(a:Aut)(X:List Int)(hX:X.length<=1100000)(N B:Nat)(rec:∀ s∈X,∀ w:List Bool,w.length=N->fre w<=B->∃ w',rF s a w=some w'/\Gr P N w w'/\hs w' s):∀ (m k:Nat) (w:List Bool),k<=X.length->X.length<m+k->w.length=N->fre w<=B->∃ w',Lg n rF a X (fun y=>some y) m ((k:Int),w)=some w'/\Gr P N w w'/\∀ s∈X.drop k,hs w' s
 |0,k,w,h1,h2,h3,h4=>by omega
 |m+1,k,w,h1,h2,h3,h4=>by
  unfold Lg
  simp only [aA,A3]
  by_cases h:k<X.length
  ·obtain ⟨w1,e1,g1,s1⟩:=rec X[k] (aH h) w h3 h4
   rw [if_pos (by omega),Aj h,Ai k (by omega),e1,Cl,aC h]
   obtain ⟨w2,e2,g2,s2⟩:=zbx n rF a X hX N B rec m (k+1) w1 (by omega) (by omega) g1.len (bK (zia (h3.trans g1.len.symm) g1.mono) h4)
   refine ⟨w2,e2,g1.trans g2,fun s q=>?_⟩
   rcases aL.1 q with q|q
   ·rw [q];exact g2.mono _ s1
   ·exact s2 s q
  ·rw [if_neg (by omega),aB (by omega)]
   exact ⟨w,rfl,Gr.refl h3,by simp⟩
theorem zl0 (a:Aut)(hl:a.fEdges.length<=1100000)(N:Nat)(hN:∀ s t,nxS a s t->0<=t/\t.toNat<N):∀ (f:Nat) (s:Int) (w:List Bool),fre w<=f->w.length=N->0<=s->s.toNat<N->∀ n,20000000+f<n->∃ w',J0 n s a w=some w'/\Gr (nxS a) N w w'/\hs w' s
 |f,s,w,h1,h2,h3,h4,n,hn=>by
  obtain ⟨n,rfl⟩:∃ n',n=n' + 1:=⟨n-1,by omega⟩
  have hs4:s.toNat<w.length:=by omega
  unfold J0
  simp only [aA]
  rw [Jz h3 hs4,G9 hs4]
  by_cases q:w[s.toNat]=true
  ·rw [q,Ab]
   exact ⟨w,rfl,Gr.refl h2,h3,by rw [aD hs4,q]⟩
  ·have q':w[s.toNat]=false:=by simpa using q
   have hf:=zfd hs4 q'
   rw [q',Ae,Jz h3 hs4,Mv hs4]
   obtain ⟨X,x1,x2,x3⟩:=zgp n (by omega) s a hl
   rw [x1,A0]
   cases f with
   |zero=>omega
   |succ f =>
    have hset:∀ t,hs (w.set s.toNat true) t ↔ t=s\/hs w t:=fun t=>by rw [zi8 hs4,bG h3]
    obtain ⟨w',e1,g1,s1⟩:=zbx (P:=nxS a) n (J0 n) a X x2 N f (fun t ht v hv hfv=>zl0 a hl N hN f t v hfv hv (hN _ _ ((x3 t).1 ht)).1 (hN _ _ ((x3 t).1 ht)).2 n (by omega)) n 0 (w.set s.toNat true) (by omega) (by omega) (by rw [bA];exact h2) (by omega)
    refine ⟨w',e1,⟨g1.len,fun t ht=>g1.mono t ((hset t).2 (aE ht)),fun t ht=>?_⟩,g1.mono s ((hset s).2 (aF rfl))⟩
    rcases g1.clo t ht with h|h
    ·rcases (hset t).1 h with h|h
     ·refine aE fun u hu=>s1 u ?_
      rw [aX,x3,<-h]
      exact hu
     ·exact aF h
    ·exact aE h
theorem z86 (n:Nat)(hn:30000000<n)(a:Aut)(hl:a.fEdges.length<=1100000)(N:Nat)(hN':N<=1000000)(hN:∀ s t,nxS a s t->0<=t/\t.toNat<N)(X:List Int)(hX:X.length<=1100000)(hXr:∀ s∈X,0<=s/\s.toNat<N):∀ (m k:Nat) (w:List Bool),k<=X.length->X.length<m+k->w.length=N->∃ w',Lr n a X (fun y=>some y) m ((k:Int),w)=some w'/\Gr (nxS a) N w w'/\∀ s∈X.drop k,hs w' s
 |0,k,w,h1,h2,h3=>by omega
 |m+1,k,w,h1,h2,h3=>by
  unfold Lr
  simp only [aA,A3,Aa]
  by_cases h:k<X.length
  ·have hx:=hXr X[k] (aH h)
   have hfw:fre w<=N:=by unfold fre;rw [<-h3];exact bQ
   obtain ⟨w1,e1,g1,s1⟩:=zl0 a hl N hN N X[k] w hfw h3 hx.1 hx.2 n (by omega)
   rw [if_pos (by omega),Aj h,Ai k (by omega),e1,Cl,aC h]
   obtain ⟨w2,e2,g2,s2⟩:=z86 n hn a hl N hN' hN X hX hXr m (k+1) w1 (by omega) (by omega) g1.len
   refine ⟨w2,e2,g1.trans g2,fun s q=>?_⟩
   rcases aL.1 q with q|q
   ·rw [q];exact g2.mono _ s1
   ·exact s2 s q
  ·rw [if_neg (by omega),aB (by omega)]
   exact ⟨w,rfl,Gr.refl h3,by simp⟩
theorem zkz (n:Nat)(hn:30000000<n)(a:Aut)(hl:a.fEdges.length<=1100000)(hN':a.fStates.length<=1000000)(hN:∀ s t,nxS a s t->0<=t/\t.toNat<a.fStates.length)(X:List Int)(hX:X.length<=1100000)(hXr:∀ s∈X,0<=s/\s.toNat<a.fStates.length):∃ w,P3 n a X a=some w/\w.length=a.fStates.length/\(∀ s∈X,hs w s)/\∀ t,hs w t->∀ u,nxS a t u->hs w u:=by
 unfold P3
 simp only [aA]
 rw [Tx (by omega) (by decide)]
 obtain ⟨w,e,g,s⟩:=z86 n hn a hl a.fStates.length hN' hN X hX hXr n 0 (aY a.fStates.length false) (by omega) (by omega) (by simp)
 exact ⟨w,e,g.len,fun t ht=>s t (by simpa using ht),fun t ht=>(g.clo t ht).resolve_left (zi9 _ _)⟩
theorem zbw (n:Nat)(rF:Int->Aut->List Bool->Option (List Bool))(a:Aut)(X:List Int)(hX:X.length<=1100000)(N B:Nat)(rec:∀ s∈X,∀ w:List Bool,w.length=N->fre w<=B->∃ w',rF s a w=some w'/\Gr P N w w'/\hs w' s):∀ (m k:Nat) (w:List Bool),k<=X.length->X.length<m+k->w.length=N->fre w<=B->∃ w',Ke n rF a X (fun y=>some y) m ((k:Int),w)=some w'/\Gr P N w w'/\∀ s∈X.drop k,hs w' s
 |0,k,w,h1,h2,h3,h4=>by omega
 |m+1,k,w,h1,h2,h3,h4=>by
  unfold Ke
  simp only [aA,A3]
  by_cases h:k<X.length
  ·obtain ⟨w1,e1,g1,s1⟩:=rec X[k] (aH h) w h3 h4
   rw [if_pos (by omega),Aj h,Ai k (by omega),e1,Cl,aC h]
   obtain ⟨w2,e2,g2,s2⟩:=zbw n rF a X hX N B rec m (k+1) w1 (by omega) (by omega) g1.len (bK (zia (h3.trans g1.len.symm) g1.mono) h4)
   refine ⟨w2,e2,g1.trans g2,fun s q=>?_⟩
   rcases aL.1 q with q|q
   ·rw [q];exact g2.mono _ s1
   ·exact s2 s q
  ·rw [if_neg (by omega),aB (by omega)]
   exact ⟨w,rfl,Gr.refl h3,by simp⟩
theorem zky (a:Aut)(hl:a.fEdges.length<=1100000)(N:Nat)(hN:∀ s t,prS a s t->0<=t/\t.toNat<N):∀ (f:Nat) (s:Int) (w:List Bool),fre w<=f->w.length=N->0<=s->s.toNat<N->∀ n,20000000+f<n->∃ w',I4 n s a w=some w'/\Gr (prS a) N w w'/\hs w' s
 |f,s,w,h1,h2,h3,h4,n,hn=>by
  obtain ⟨n,rfl⟩:∃ n',n=n' + 1:=⟨n-1,by omega⟩
  have hs4:s.toNat<w.length:=by omega
  unfold I4
  simp only [aA]
  rw [Jz h3 hs4,G9 hs4]
  by_cases q:w[s.toNat]=true
  ·rw [q,Ab]
   exact ⟨w,rfl,Gr.refl h2,h3,by rw [aD hs4,q]⟩
  ·have q':w[s.toNat]=false:=by simpa using q
   have hf:=zfd hs4 q'
   rw [q',Ae,Jz h3 hs4,Mv hs4]
   obtain ⟨X,x1,x2,x3⟩:=zep n (by omega) s a hl
   rw [x1,A0]
   cases f with
   |zero=>omega
   |succ f =>
    have hset:∀ t,hs (w.set s.toNat true) t ↔ t=s\/hs w t:=fun t=>by rw [zi8 hs4,bG h3]
    obtain ⟨w',e1,g1,s1⟩:=zbw (P:=prS a) n (I4 n) a X x2 N f (fun t ht v hv hfv=>zky a hl N hN f t v hfv hv (hN _ _ ((x3 t).1 ht)).1 (hN _ _ ((x3 t).1 ht)).2 n (by omega)) n 0 (w.set s.toNat true) (by omega) (by omega) (by rw [bA];exact h2) (by omega)
    refine ⟨w',e1,⟨g1.len,fun t ht=>g1.mono t ((hset t).2 (aE ht)),fun t ht=>?_⟩,g1.mono s ((hset s).2 (aF rfl))⟩
    rcases g1.clo t ht with h|h
    ·rcases (hset t).1 h with h|h
     ·refine aE fun u hu=>s1 u ?_
      rw [aX,x3,<-h]
      exact hu
     ·exact aF h
    ·exact aE h
theorem z85 (n:Nat)(hn:30000000<n)(a:Aut)(hl:a.fEdges.length<=1100000)(N:Nat)(hN':N<=1000000)(hN:∀ s t,prS a s t->0<=t/\t.toNat<N)(X:List Int)(hX:X.length<=1100000)(hXr:∀ s∈X,0<=s/\s.toNat<N):∀ (m k:Nat) (w:List Bool),k<=X.length->X.length<m+k->w.length=N->∃ w',Kv n a X (fun y=>some y) m ((k:Int),w)=some w'/\Gr (prS a) N w w'/\∀ s∈X.drop k,hs w' s
 |0,k,w,h1,h2,h3=>by omega
 |m+1,k,w,h1,h2,h3=>by
  unfold Kv
  simp only [aA,A3,Aa]
  by_cases h:k<X.length
  ·have hx:=hXr X[k] (aH h)
   have hfw:fre w<=N:=by unfold fre;rw [<-h3];exact bQ
   obtain ⟨w1,e1,g1,s1⟩:=zky a hl N hN N X[k] w hfw h3 hx.1 hx.2 n (by omega)
   rw [if_pos (by omega),Aj h,Ai k (by omega),e1,Cl,aC h]
   obtain ⟨w2,e2,g2,s2⟩:=z85 n hn a hl N hN' hN X hX hXr m (k+1) w1 (by omega) (by omega) g1.len
   refine ⟨w2,e2,g1.trans g2,fun s q=>?_⟩
   rcases aL.1 q with q|q
   ·rw [q];exact g2.mono _ s1
   ·exact s2 s q
  ·rw [if_neg (by omega),aB (by omega)]
   exact ⟨w,rfl,Gr.refl h3,by simp⟩
theorem zkx (n:Nat)(hn:30000000<n)(a:Aut)(hl:a.fEdges.length<=1100000)(hN':a.fStates.length<=1000000)(hN:∀ s t,prS a s t->0<=t/\t.toNat<a.fStates.length)(X:List Int)(hX:X.length<=1100000)(hXr:∀ s∈X,0<=s/\s.toNat<a.fStates.length):∃ w,Lf n a X a=some w/\w.length=a.fStates.length/\(∀ s∈X,hs w s)/\∀ t,hs w t->∀ u,prS a t u->hs w u:=by
 unfold Lf
 simp only [aA]
 rw [Tx (by omega) (by decide)]
 obtain ⟨w,e,g,s⟩:=z85 n hn a hl a.fStates.length hN' hN X hX hXr n 0 (aY a.fStates.length false) (by omega) (by omega) (by simp)
 exact ⟨w,e,g.len,fun t ht=>s t (by simpa using ht),fun t ht=>(g.clo t ht).resolve_left (zi9 _ _)⟩
theorem Uw (n:Nat)(w:List Bool)(hw:w.length<=1100000):∀ (m k:Nat) (acc:List Int),k<=w.length->w.length<m+k->acc.length<=k->∃ L,Ik n w (fun y=>some y) m ((k:Int),acc)=some L/\L.length<=w.length/\∀ t:Int,t∈L ↔ t∈acc\/∃ j:Nat,k<=j/\t=(j:Int)/\w[j]? = some true
 |0,k,acc,h1,h2,h3=>by omega
 |m+1,k,acc,h1,h2,h3=>by
  unfold Ik
  simp only [aA,Aa]
  by_cases h:k<w.length
  ·have hk:w[k]? = some w[k]:=aD h
   rw [A3,if_pos (by omega),Aj h,Ai k (by omega)]
   by_cases q:w[k]=true
   ·rw [q,Ab,Bv (by simp;omega) (by decide)]
    obtain ⟨L,e1,e2,e3⟩:=Uw n w hw m (k+1) (acc++[(k:Int)]) (by omega) (by omega) (by simp;omega)
    refine ⟨L,e1,e2,fun t=>?_⟩
    rw [e3,aK,aG]
    constructor
    ·rintro ((h|h)|⟨j,j1,j2⟩)
     ·exact aF h
     ·exact aE ⟨k,aS _,h,by rw [hk,q]⟩
     ·exact aE ⟨j,by omega,j2⟩
    ·rintro (h|⟨j,j1,j2,j3⟩)
     ·exact aF (aF h)
     ·by_cases e:j=k
      ·subst e;exact aF (aE j2)
      ·exact aE ⟨j,by omega,j2,j3⟩
   ·have q':w[k]=false:=by simpa using q
    rw [q',Ae]
    obtain ⟨L,e1,e2,e3⟩:=Uw n w hw m (k+1) acc (by omega) (by omega) (by omega)
    refine ⟨L,e1,e2,fun t=>?_⟩
    rw [e3]
    constructor
    ·rintro (h|⟨j,j1,j2⟩)
     ·exact aF h
     ·exact aE ⟨j,by omega,j2⟩
    ·rintro (h|⟨j,j1,j2,j3⟩)
     ·exact aF h
     ·by_cases e:j=k
      ·subst e;rw [hk] at j3;injection j3 with j3;exact absurd j3 q
      ·exact aE ⟨j,by omega,j2,j3⟩
  ·rw [A3,if_neg (by omega)]
   refine ⟨acc,rfl,by omega,fun t=>⟨aF,fun h=>h.elim id fun ⟨j,j1,j2,j3⟩=>?_⟩⟩
   have:=(List.getElem?_eq_some_iff.1 j3).1
   omega
theorem Zw (n:Nat)(hn:10000000<n)(w:List Bool)(hw:w.length<=1100000):∃ L,Oq n w=some L/\L.length<=w.length/\∀ t:Int,t∈L ↔ hs w t:=by
 obtain ⟨L,e1,e2,e3⟩:=Uw n w hw n 0 [] (by omega) (by omega) (by simp)
 refine ⟨L,e1,e2,fun t=>?_⟩
 rw [e3]
 unfold hs
 constructor
 ·rintro (h|⟨j,_,j2,j3⟩)
  ·cases h
  ·subst j2;exact ⟨by omega,by simpa using j3⟩
 ·rintro ⟨h0,h⟩
  exact aE ⟨t.toNat,by omega,by omega,h⟩
theorem Vp (n:Nat)(a:Aut)(hl:a.fEdges.length<=1100000)(K:List Int->Option (List Bool)):∀ (m k:Nat) (acc:List Int),k<=a.fEdges.length->a.fEdges.length<m+k->acc.length<=k->∃ R,Ir n a K m ((k:Int),acc)=K R/\R.length<=a.fEdges.length/\∀ t:Int,t∈R ↔ t∈acc\/∃ x∈a.fEdges.drop k,x.fTo<0/\x.fFrom=t
 |0,k,acc,h1,h2,h3=>by omega
 |m+1,k,acc,h1,h2,h3=>by
  unfold Ir
  simp only [aA,A3,Aa]
  by_cases h:k<a.fEdges.length
  ·rw [if_pos (by omega),Aj h,Ai k (by omega),aC h]
   simp only [aL,exists_eq_or_imp]
   by_cases q:a.fEdges[k].fTo<0
   ·rw [if_pos q,Bv (by simp;omega) (by decide)]
    obtain ⟨R,e1,e2,e3⟩:=Vp n a hl K m (k+1) (acc++[a.fEdges[k].fFrom]) (by omega) (by omega) (by simp;omega)
    refine ⟨R,e1,e2,fun t=>?_⟩
    rw [e3,aK,aG,or_assoc]
    exact or_congr aT (or_congr ⟨fun e=>⟨q,e.symm⟩,fun e=>e.2.symm⟩ aT)
   ·rw [if_neg q]
    obtain ⟨R,e1,e2,e3⟩:=Vp n a hl K m (k+1) acc (by omega) (by omega) (by omega)
    refine ⟨R,e1,e2,fun t=>?_⟩
    rw [e3]
    exact or_congr aT ⟨aE,fun h=>h.elim (fun e=>absurd e.1 q) id⟩
  ·rw [if_neg (by omega),aB (by omega)]
   exact ⟨acc,rfl,by omega,fun t=>by simp⟩
structure EdR (a:Aut):Prop where
 st:1<=a.fStates.length/\a.fStates.length<=256
 ed:∀ x∈a.fEdges,0<=x.fFrom/\x.fFrom<a.fStates.length/\-1<=x.fTo/\x.fTo<a.fStates.length
 le:a.fEdges.length<=1100000
theorem zap (n:Nat)(hn:30000000<n)(a:Aut)(h:EdR a)(hc:C3 n a=some 0):∃ L,O9 n a=some (L,0)/\L.length<=1100000/\0∈L/\∀ s∈L,∀ t,nxS a s t->t∈L:=by
 have hst:=h.st
 unfold O9 Ru
 rw [hc,A0]
 simp only [Ak,A3,if_true,zib,Aa]
 obtain ⟨w,e,e1,e2,e3⟩:=zkz n hn a h.le (by omega) (fun s t ⟨x,hx,_,x2,x3⟩=>by have:=h.ed x hx;omega) [0] (by simp) (by simp;omega)
 obtain ⟨L,l1,l2,l3⟩:=Zw n (by omega) w (by omega)
 rw [e,A0,A0,l1,A0]
 exact ⟨L,rfl,by omega,(l3 0).2 (e2 0 (by simp)),fun s hs t ht=>(l3 t).2 (e3 s ((l3 s).1 hs) t ht)⟩
theorem zh2 (n:Nat)(hn:30000000<n)(a:Aut)(h:EdR a)(hc:C3 n a=some 0):∃ L,P1 n a=some (L,0)/\L.length<=1100000/\(∀ x∈a.fEdges,x.fTo<0->x.fFrom∈L)/\∀ s∈L,∀ t,prS a s t->t∈L:=by
 have hst:=h.st
 unfold P1 Sa
 rw [hc,A0]
 simp only [Ak,A3,if_true,zib,Aa,Qe]
 obtain ⟨R,r1,r2,r3⟩:=Vp n a h.le (fun y=>bnd (Lf n a y a) fun x42=>some x42) n 0 [] (by omega) (by have:=h.le;omega) (by simp)
 have hR:∀ t∈R,0<=t/\t.toNat<a.fStates.length:=fun t ht=>by
  obtain h'|⟨x,hx,_,x2⟩:=(r3 t).1 ht
  ·cases h'
  ·have:=h.ed x (by simpa using hx);omega
 obtain ⟨w,e,e1,e2,e3⟩:=zkx n hn a h.le (by omega) (fun s t ⟨x,hx,_,x2⟩=>by have:=h.ed x hx;omega) R (by have:=h.le;omega) hR
 obtain ⟨L,l1,l2,l3⟩:=Zw n (by omega) w (by omega)
 simp only [aJ] at r1
 rw [r1,e,A0,A0,l1,A0]
 exact ⟨L,rfl,by omega,fun x hx q=>(l3 _).2 (e2 _ ((r3 _).2 (aE ⟨x,by simpa using hx,q,rfl⟩))),fun s hs t ht=>(l3 t).2 (e3 s ((l3 s).1 hs) t ht)⟩
theorem zbt (n:Nat)(L:List Int)(hL:L.length<=1100000):∀ (m k:Nat) (M:Mp),k<=L.length->L.length<m+k->MK M->∃ R,M9 n L (fun y=>some y) m ((k:Int),M)=some R/\MK R/\∀ t:Int,has R t ↔ has M t\/t∈L.drop k
 |0,k,M,h1,h2,h3=>by omega
 |m+1,k,M,h1,h2,h3=>by
  unfold M9
  simp only [aA,A3]
  by_cases h:k<L.length
  ·rw [if_pos (by omega),Aj h,Ai k (by omega),Dm,aC h]
   obtain ⟨R,e1,e2,e3⟩:=zbt n L hL m (k+1) (mput M L[k] true) (by omega) (by omega) (h3.put _)
   refine ⟨R,e1,e2,fun t=>?_⟩
   rw [e3,h3.has_put,aL,or_comm (a:=t=L[k]),or_assoc]
  ·rw [if_neg (by omega),aB (by omega)]
   exact ⟨M,rfl,h3,by simp⟩
theorem zku (n:Nat)(hn:10000000<n)(L:List Int)(hL:L.length<=1100000):∃ R,Pu n L=some R/\MK R/\∀ t:Int,has R t ↔ t∈L:=by
 obtain ⟨R,e1,e2,e3⟩:=zbt n L hL n 0 [] (by omega) (by omega) MK.nil
 exact ⟨R,e1,e2,fun t=>by rw [e3];simp [Dk]⟩
theorem Vf (n:Nat)(a:Aut)(hl:a.fEdges.length<=1100000)(R U:Mp)(hR:MK R)(hU:MK U)(K:Mp->Mp->Option Bq):∀ (m k:Nat) (M:Mp),k<=a.fEdges.length->a.fEdges.length<m+k->MK M->∃ I,Fq n a R U K m ((k:Int),M)=K R I/\MK I/\∀ t:Int,has I t ↔ has M t\/∃ x∈a.fEdges.drop k,0<=x.fTo/\has R x.fFrom/\has U x.fTo/\x.fTo=t
 |0,k,M,h1,h2,h3=>by omega
 |m+1,k,M,h1,h2,h3=>by
  unfold Fq
  simp only [aA,Aa]
  by_cases h:k<a.fEdges.length
  ·rw [A3,if_pos (by omega),Aj h,Ai k (by omega),aC h]
   simp only [Mz,Dm,Af,hR.get,hU.get,decide_eq_true_eq,aL,exists_eq_or_imp]
   by_cases q:0<=a.fEdges[k].fTo/\has R a.fEdges[k].fFrom/\has U a.fEdges[k].fTo
   ·rw [if_pos q.1,if_pos q.2.1,if_pos q.2.2]
    obtain ⟨I,e1,e2,e3⟩:=Vf n a hl R U hR hU K m (k+1) (mput M a.fEdges[k].fTo true) (by omega) (by omega) (h3.put _)
    refine ⟨I,e1,e2,fun t=>?_⟩
    rw [e3,h3.has_put]
    grind
   ·obtain ⟨I,e1,e2,e3⟩:=Vf n a hl R U hR hU K m (k+1) M (by omega) (by omega) h3
    refine ⟨I,?_,e2,fun t=>?_⟩
    ·rw [<-e1]
     split
     ·split
      ·split
       ·rename_i q1 q2 q3;exact absurd ⟨q1,q2,q3⟩ q
       ·rfl
      ·rfl
     ·rfl
    ·rw [e3]
     grind
  ·rw [A3,if_neg (by omega),aB (by omega)]
   exact ⟨M,rfl,h3,by simp⟩
structure PtOk (a:Aut) (p:Bq):Prop where
 r:MK p.freachable
 i:MK p.finner
 r0:has p.freachable 0
 rn:∀ x∈a.fEdges,has p.freachable x.fFrom->0<=x.fTo->has p.freachable x.fTo
 ir:∀ t,has p.finner t->0<=t/\t.toNat<a.fStates.length
 us:∃ U:Int->Prop,(∀ x∈a.fEdges,x.fTo<0\/U x.fTo->U x.fFrom)/\∀ t,has p.finner t ↔ ∃ x∈a.fEdges,0<=x.fTo/\has p.freachable x.fFrom/\U x.fTo/\x.fTo=t
theorem zix (n:Nat)(hn:30000000<n)(a:Aut)(h:EdR a)(hc:C3 n a=some 0):∃ p,M8 n a=some p/\PtOk a p:=by
 obtain ⟨L,l1,l2,l3,l4⟩:=zap n hn a h hc
 obtain ⟨U,u1,u2,u3,u4⟩:=zh2 n hn a h hc
 obtain ⟨R,r1,r2,r3⟩:=zku n (by omega) L l2
 obtain ⟨V,v1,v2,v3⟩:=zku n (by omega) U u2
 obtain ⟨I,i1,i2,i3⟩:=Vf n a h.le R V r2 v2 (fun y z=>some (⟨y,z⟩)) n 0 [] (by omega) (by have:=h.le;omega) MK.nil
 unfold M8
 simp only [aJ] at i1
 rw [l1,A0,u1,A0,r1,A0,v1,A0,i1]
 have hI:∀ t,has I t ↔ ∃ x∈a.fEdges,0<=x.fTo/\has R x.fFrom/\t∈U/\x.fTo=t:=fun t=>by
  rw [i3]
  simp only [Dk,false_or,aX,v3]
  grind
 refine ⟨⟨R,I⟩,rfl,r2,i2,(r3 0).2 l3,fun x hx q q0=>(r3 _).2 (l4 _ ((r3 _).1 q) _ ⟨x,hx,rfl,rfl,q0⟩),fun t ht=>?_,fun t=>t∈U,fun x hx q=>q.elim (u3 x hx) (fun q=>u4 _ q _ ⟨x,hx,rfl,rfl⟩),fun t=>?_⟩
 ·obtain ⟨x,hx,q0,_,_,q3⟩:=(hI t).1 ht
  have:=h.ed x hx
  omega
 ·rw [hI]
  grind
theorem zf4 {t:Int}{len:Nat}(h0:0<=t)(h:t.toNat<len)(c:Option β):ncx t len c=c:=by
 unfold ncx
 rw [if_pos ⟨h0,h⟩]
theorem zlg (i:Nat)(x:Option β):fro i x=x:=by unfold fro;rfl
theorem V5 (n:Nat)(hn:10000000<n)(a:Aut)(hsc:a.fScopes<=64)(p:Bq)(hp:MK p.finner)(x:Ed)(hxo:x.fOpens.length<=1100000)(hxc:x.fCloses.length<=1100000)(out:List Mp)(ho:∀ M∈out,MK M)(hf:0<=x.fFrom/\x.fFrom.toNat<out.length):∀ (m k:Nat) (M:Mp),k<=64->64<m+k->MK M->∃ R,Dy n out x a p (fun y=>some y) m ((k:Int),M)=some R/\MK R
 |0,k,M,h1,h2,h3=>by omega
 |m+1,k,M,h1,h2,h3=>by
  unfold Dy
  rw [A3]
  by_cases h:(k:Int)<a.fScopes
  ·rw [if_pos h,Mf n (k:Int) x.fOpens (by omega) (by omega),A0,Mf n (k:Int) x.fCloses (by omega) (by omega),A0]
   have key:∀ (b:Bool),∃ R,Ei n out x a p ((k:Int),M) (Dy n out x a p (fun y=>some y) m) b=some R/\MK R:=fun b=>by
    unfold Ei
    simp only [Aa,Dm,Ai k (by omega)]
    cases b with
    |true=>rw [Ab];exact V5 n hn a hsc p hp x hxo hxc out ho hf m (k+1) _ (by omega) (by omega) (h3.put _)
    |false=>rw [Ae];exact V5 n hn a hsc p hp x hxo hxc out ho hf m (k+1) _ (by omega) (by omega) h3
   have key5:∀ (c b:Bool),∃ R,F7 n out x a p ((k:Int),M) (Dy n out x a p (fun y=>some y) m) c b=some R/\MK R:=fun c b=>by
    unfold F7
    simp only [Aa,Ao,Mz]
    cases (mlk p.finner x.fFrom).getD false with
    |false=>rw [Ae];exact key _
    |true =>
     rw [Ab]
     cases b with
     |false=>rw [Ae];exact key _
     |true =>
      rw [Ab]
      cases c with
      |true=>simp only [aU,Ae];exact key _
      |false=>simp only [aR,Ab];rw [G6 hf.1 hf.2];exact key _
   simp only [Aa,Ao]
   rw [A3]
   split
   ·cases (x.fCloses.any fun y=>decide ((k:Int)=y)) with
    |true=>simp only [aU,Ae];exact key5 _ _
    |false=>simp only [aR,Ab];exact key5 _ _
   ·exact key5 _ _
  ·rw [if_neg h]
   exact ⟨M,rfl,h3⟩
theorem zgt (n:Nat)(hn:10000000<n)(a:Aut)(hsc:a.fScopes<=64)(p:Bq)(hp:MK p.finner)(x:Ed)(hxo:x.fOpens.length<=1100000)(hxc:x.fCloses.length<=1100000)(out:List Mp)(ho:∀ M∈out,MK M)(hf:0<=x.fFrom/\x.fFrom.toNat<out.length):∃ R,Rk n p a x out=some R/\MK R :=
 V5 n hn a hsc p hp x hxo hxc out ho hf n 0 [] (by omega) (by omega) MK.nil
theorem V9 (n:Nat)(B C:Mp)(hB:MK B)(hC:Srt C)(hC2:MK C):∀ (m:Nat) (rem acc:Mp),rem.length<m->MK rem->MK acc->(∀ v,has rem v->¬has acc v)->(∀ v,has C v ↔ has acc v\/(has rem v/\has B v))->J3 n B (fun y=>frs 7 y (some (C1 y))) m (rem,acc)=some C
 |0,rem,acc,h1,h2,h3,h4,h5=>by omega
 |m+1,rem,acc,h1,h2,h3,h4,h5=>by
  unfold J3
  by_cases e:rem=[]
  ·subst e
   simp only [Q9]
   unfold frs
   rw [if_pos h3.nd]
   refine congrArg some (zil (T5 _) hC h3.sort.1.tr hC2.tr fun v=>?_)
   rw [h3.sort.2.2.2,h5]
   simp [Dk]
  ·have hn:∀ (x y:Option Mp),nxt rem x y=y:=fun x y=>by
    cases rem with
    |nil=>exact absurd rfl e
    |cons p r=>exact Q6 p r x y
   simp only [hn]
   refine Q4 e fun j hj=>?_
   obtain ⟨o1,o2,o3⟩:=h2.out hj
   simp only [Aa,Mz,Dm,Af,hB.get]
   have hna:¬has acc rem[j].1:=h4 _ ((o3 _).2 (aF rfl))
   have hlen:(rem.eraseIdx j).length<m:=by rw [bD hj];omega
   split
   ·rename_i q
    refine V9 n B C hB hC hC2 m _ _ hlen o1 (h3.put _) (fun v hv hp=>?_) (fun v=>?_)
    ·rcases (h3.has_put _ _).1 hp with e'|e'
     ·exact o2 (e'▸hv)
     ·exact h4 v ((o3 v).2 (aE hv)) e'
    ·rw [h5,o3,h3.has_put]
     grind
   ·rename_i q
    refine V9 n B C hB hC hC2 m _ _ hlen o1 h3 (fun v hv=>h4 v ((o3 v).2 (aE hv))) (fun v=>?_)
    rw [h5,o3]
    grind
theorem MK.filter {l:Mp}(h:MK l)(q:Int×Bool->Bool):MK (l.filter q):=⟨h.nd.sublist (filter_sublist.map _),fun p hp=>h.tr p (bB.1 hp).1⟩
theorem zc2 (n:Nat)(A B:Mp)(hA:MK A)(hB:MK B)(hn:A.length<n):∃ C,Je n A B=some C/\MK C/\∀ v,has C v ↔ has A v/\has B v:=by
 have hf:=hA.filter (fun p=>(mlk B p.1).getD false)
 have hk:∀ v,has (A.filter fun p=>(mlk B p.1).getD false) v ↔ has A v/\has B v:=fun v=>by
  unfold has
  simp only [bL,bB,hB.get]
  constructor
  ·rintro ⟨p,⟨p1,p2⟩,rfl⟩;exact ⟨⟨p,p1,rfl⟩,by simpa [has] using p2⟩
  ·rintro ⟨⟨p,p1,rfl⟩,p2⟩;exact ⟨p,⟨p1,by simpa [has] using p2⟩,rfl⟩
 refine ⟨C1 (A.filter fun p=>(mlk B p.1).getD false),?_,hf.sort.1,fun v=>by rw [hf.sort.2.2.2,hk]⟩
 unfold Je
 simp only [Aa]
 exact V9 n B _ hB hf.sort.2.1 hf.sort.1 n A [] hn hA MK.nil (fun v _=>Dk v) (fun v=>by rw [hf.sort.2.2.2,hk];simp [Dk])
def tot (out:List Mp):Nat:=(out.map length).sum
theorem Wb {out:List Mp}(hi:i<out.length)(M:Mp):tot (out.set i M)+out[i].length=tot out+M.length:=by
 unfold tot
 induction out generalizing i with
 |nil=>simp at hi
 |cons q r ih =>
  cases i with
  |zero=>simp only [set_cons_zero,bM,sum_cons,bN];omega
  |succ i =>
   have:=ih (by simpa using hi)
   simp only [set_cons_succ,bM,sum_cons,bO]
   omega
structure Dx (N:Nat) (out:List Mp):Prop where
 len:out.length=N
 mks:∀ M∈out,MK M
theorem Dx.set {out:List Mp}(h:Dx N out)(i:Nat){M:Mp}(hM:MK M):Dx N (out.set i M) :=
 ⟨by rw [bA];exact h.len,fun q hq=>(aO hq).elim (h.mks q) (fun e=>e▸hM)⟩
structure AutR (a:Aut):Prop extends EdR a where
 sc:0<=a.fScopes/\a.fScopes<=64
 lo:∀ x∈a.fEdges,x.fOpens.length<=1100000/\x.fCloses.length<=1100000/\x.fInside.length<=1100000/\x.fLimits.length<=1100000
 sp:∀ x∈a.fEdges,∀ l∈x.fLimits,0<=l.fSpan/\l.fSpan<=1099511627776
theorem Sm (n:Nat)(hn:10000000<n)(a:Aut)(h:AutR a)(p:Bq)(hp:PtOk a p)(K:Bool->List Mp->Option (List Mp)):∀ (m k:Nat) (b:Bool) (out:List Mp),k<=a.fEdges.length->a.fEdges.length<m+k->Dx a.fStates.length out->tot out<10000000->∃ b' out',Eg n a p K m (b,(k:Int),out)=K b' out'/\Dx a.fStates.length out'/\tot out'<=tot out/\(b'=true->b=true\/tot out' < tot out)
 |0,k,b,out,h1,h2,h3,h4=>by omega
 |m+1,k,b,out,h1,h2,h3,h4=>by
  have hle:=h.le
  unfold Eg
  simp only [aA]
  by_cases hk:k<a.fEdges.length
  ·rw [A3,if_pos (by omega),Aj hk]
   have hx:=h.ed _ (aH hk)
   have hlo:=h.lo _ (aH hk)
   have hlen:=h3.len
   have skip:∃ b' out',Eh n a p (b,(k:Int),out) (Eg n a p K m) a.fEdges[k] true=K b' out'/\Dx a.fStates.length out'/\tot out'<=tot out/\(b'=true->b=true\/tot out' < tot out):=by
    unfold Eh
    simp only [Ai k (by omega:k<=1000000000000)]
    rw [Ab]
    exact Sm n hn a h p hp K m (k+1) b out (by omega) (by omega) h3 h4
   simp only [Ao,Aa,Mz]
   rw [A3]
   by_cases q:a.fEdges[k].fTo<0
   ·rw [if_pos q];exact skip
   rw [if_neg q]
   have ht:0<=a.fEdges[k].fTo/\a.fEdges[k].fTo.toNat<out.length:=by omega
   cases (mlk p.freachable a.fEdges[k].fFrom).getD false with
   |false=>simp only [aR,Ab];exact skip
   |true =>
    simp only [aU,Ae]
    cases (mlk p.finner a.fEdges[k].fTo).getD false with
    |false=>simp only [aR];exact skip
    |true =>
     simp only [aU]
     unfold Eh
     simp only [Ai k (by omega:k<=1000000000000),aA,Aa]
     rw [Ae,Jz ht.1 ht.2,G9 ht.2]
     obtain ⟨R,r1,r2⟩:=zgt n hn a h.sc.2 p hp.i _ hlo.1 hlo.2.1 out h3.mks (by omega)
     have hmo:=h3.mks _ (aH ht.2)
     have hle:out[a.fEdges[k].fTo.toNat].length<=tot out:=by
      have:=Wb ht.2 []
      simp only [bU] at this
      omega
     obtain ⟨C,c1,c2,c3⟩:=zc2 n _ R hmo r2 (by omega)
     rw [r1,A0,c1,A0,Jz ht.1 ht.2,G9 ht.2,A3]
     by_cases ql:C.length<out[a.fEdges[k].fTo.toNat].length
     ·rw [if_pos (by omega),Jz ht.1 ht.2,Mv ht.2]
      have hts:=Wb ht.2 C
      obtain ⟨b',out',e1,e2,e3,e4⟩:=Sm n hn a h p hp K m (k+1) true (out.set a.fEdges[k].fTo.toNat C) (by omega) (by omega) (h3.set _ c2) (by omega)
      exact ⟨b',out',e1,e2,by omega,fun _=>aE (by omega)⟩
     ·rw [if_neg (by omega)]
      exact Sm n hn a h p hp K m (k+1) b out (by omega) (by omega) h3 h4
  ·rw [A3,if_neg (by omega)]
   exact ⟨b,out,rfl,h3,aS _,aF⟩
theorem Ye (n:Nat)(hn:10000000<n)(a:Aut)(h:AutR a)(p:Bq)(hp:PtOk a p):∀ (m:Nat) (b:Bool) (out:List Mp),(tot out+1<m\/(b=false/\tot out<m))->Dx a.fStates.length out->tot out<10000000->∃ out',Gi n a p (fun y=>some y) m (b,out)=some out'/\Dx a.fStates.length out'/\tot out'<=tot out
 |0,b,out,h1,h2,h3=>by omega
 |m+1,b,out,h1,h2,h3=>by
  unfold Gi
  simp only
  cases b with
  |false=>rw [Ae];exact ⟨out,rfl,h2,aS _⟩
  |true =>
   rw [Ab]
   have hle:=h.le
   obtain ⟨b',out',e1,e2,e3,e4⟩:=Sm n hn a h p hp (fun y z=>Gi n a p (fun y=>some y) m (y,z)) n 0 false out (by omega) (by omega) h2 h3
   simp only [aJ] at e1
   rw [e1]
   have h1':tot out+1<m+1:=by
    rcases h1 with h|h
    ·exact h
    ·exact absurd h.1 (by simp)
   have hb:tot out' + 1<m\/(b'=false/\tot out' < m):=by
    cases b' with
    |false=>exact aE ⟨rfl,by omega⟩
    |true=>have:=(e4 rfl).resolve_left (by simp);exact aF (by omega)
   obtain ⟨q,q1,q2,q3⟩:=Ye n hn a h p hp m b' out' hb e2 (by omega)
   exact ⟨q,q1,q2,by omega⟩
def addS (k:Int):Nat->Mp->Mp
 |0,q=>q
 |d+1,q=>addS (k+1) d (sput q k true)
theorem zk6 (k:Int)(d:Nat)(q:Mp)(h:Srt q)(t:∀ p∈q,p.2=true):Srt (addS k d q)/\∀ p∈addS k d q,p.2=true:=by
 induction d generalizing k q with
 |zero=>exact ⟨h,t⟩
 |succ d ih=>exact ih (k+1) _ (Mm h) (fun p hp=>(zbf p hp).elim (fun e=>by rw [e]) (t p))
theorem zi0 (k:Int)(d:Nat)(q:Mp)(h:Srt q):(addS k d q).length<=q.length+d:=by
 induction d generalizing k q with
 |zero=>exact aS _
 |succ d ih =>
  have:=ih (k+1) (sput q k true) (Mm h)
  have h2:=(Vl (k:=k) (v:=true) h).length_eq
  have h3:(q.filter fun p=>decide (p.1≠k)).length<=q.length:=bR _ _
  simp only [aW,bS] at h2
  show (addS (k+1) d (sput q k true)).length<=_
  omega
def allS (a:Aut):Mp:=addS 0 a.fScopes.toNat []
theorem Yd (n:Nat)(a:Aut)(hsc:0<=a.fScopes/\a.fScopes<=64)(p:Bq)(V:Nat×Ars Mp×Mp)(x146:Int×Bool)(x147:Mp)(ix:List (Option Nat))(os:List Mp)(i:Nat)(hi:i<ix.length)(hx:x146.1=(i:Int))(hV:V.1=ix.length)(K:Ars Mp->Mp->Option (List Mp)):∀ (m k:Nat) (q:Mp),(k:Int)<=a.fScopes->a.fScopes<m+k->Srt q->Kk n a p V x146 x147 K m ((k:Int),(ix.set i (some os.length),os++[q]))=K (ix.set i (some os.length),os++[addS (k:Int) (a.fScopes.toNat-k) q]) x147
 |0,k,q,h1,h2,h3=>by omega
 |m+1,k,q,h1,h2,h3=>by
  unfold Kk
  simp only
  rw [A3]
  by_cases h:(k:Int)<a.fScopes
  ·have hob:∀ c:Nat->Option (List Mp),aob (ix.set i (some os.length),os++[q]) i c=c os.length:=fun c=>by
    unfold aob
    simp only [aQ,if_true,hi]
   have hup:∀ c:Ars Mp->Option (List Mp),aup (ix.set i (some os.length),os++[q]) os.length (k:Int) true c=c (ix.set i (some os.length),os++[sput q (k:Int) true]):=fun c=>by
    rw [zls (l:=q) (by simp) h3]
    simp
   rw [if_pos h,zf4 (by omega) (by omega),hx,aM,hob,hup,Ai k (by omega),Yd n a hsc p V x146 x147 ix os i hi hx hV K m (k+1) _ (by omega) (by omega) (Mm h3)]
   have e:a.fScopes.toNat-k=(a.fScopes.toNat-(k+1))+1:=by omega
   rw [e]
   rfl
  ·rw [if_neg h]
   have e:a.fScopes.toNat-k=0:=by omega
   rw [e]
   rfl
structure ArOk (N:Nat) (m:Ars Mp):Prop where
 len:m.1.length=N
 lt:∀ (i j:Nat),m.1[i]? = some (some j)->j<m.2.length
theorem ArOk.put {ix:List (Option Nat)}(h:ArOk N (ix,os))(hi:i<N)(q:Mp):ArOk N (ix.set i (some os.length),os++[q])/\aval (ix.set i (some os.length),os++[q])=(aval (ix,os)).set i q:=by
 have hl:=h.len
 simp only at hl
 refine ⟨⟨by simp [hl],fun k j e=>?_⟩,?_⟩
 ·simp only [aQ] at e
  simp only [aW,bS]
  split at e
  ·split at e
   ·injection e with e;injection e with e;omega
   ·cases e
  ·have:=h.lt k j e;simp only at this;omega
 ·unfold aval
  apply ext_getElem
  ·simp
  ·intro k k1 k2
   simp only [aA,bA] at k1
   simp only [getElem_map,getElem_set]
   by_cases e:i=k
   ·subst e;simp
   ·rw [if_neg e,if_neg e]
    have hlt:=h.lt k
    cases e2:ix[k] with
    |none=>rfl
    |some j =>
     have:=hlt j (by simp only;rw [aD k1,e2])
     simp only at this
     simp only [getElem?_append_left this]
theorem Yf (n:Nat)(hn:10000000<n)(a:Aut)(h:AutR a)(p:Bq)(K:Nat->Ars Mp->Option (List Mp))(KK:List Mp->Option (List Mp))(hK:∀ N m,K N m=KK (aval m))(r:List Mp):∀ (m:Nat) (rem:Mp) (ar:Ars Mp),rem.length<m->MK rem->(∀ t,has rem t->0<=t/\t.toNat<a.fStates.length)->ArOk a.fStates.length ar->KK (rem.foldl (fun w q=>w.set q.1.toNat (allS a)) (aval ar))=some r->Hq n a p K m (a.fStates.length,ar,rem)=some r
 |0,rem,ar,h1,h2,h3,h4,h5=>by omega
 |m+1,rem,ar,h1,h2,h3,h4,h5=>by
  unfold Hq
  simp only
  by_cases e:rem=[]
  ·subst e
   rw [Q9,hK]
   exact h5
  ·have hne:∀ (x y:Option (List Mp)),nxt rem x y=y:=fun x y=>by
    cases rem with
    |nil=>exact absurd rfl e
    |cons p r=>exact Q6 p r x y
   rw [hne]
   refine Q4 e fun j hj=>?_
   obtain ⟨o1,o2,o3⟩:=h2.out hj
   obtain ⟨t0,t1⟩:=h3 rem[j].1 ((o3 _).2 (aF rfl))
   obtain ⟨i,hi⟩:∃ i:Nat,rem[j].1=(i:Int):=⟨rem[j].1.toNat,by omega⟩
   have hi2:i<a.fStates.length:=by omega
   obtain ⟨ix,os⟩:=ar
   have hl:=h4.len
   simp only at hl
   have hsc:=h.sc
   rw [Aa,zf4 t0 t1,hi,aM]
   have hst:∀ c:Ars Mp->Option (List Mp),ast (ix,os) i [] c=c (ix.set i (some os.length),os++[[]]):=fun c=>by
    unfold ast
    simp only
    rw [if_pos (by omega)]
   have h4':=Yd n a hsc p (a.fStates.length,(ix,os),rem) rem[j] (rem.eraseIdx j) ix os i (by omega) hi hl.symm (fun y z=>Hq n a p K m (a.fStates.length,y,z)) n 0 [] (by omega) (by omega) (by simp [Srt])
   simp only [aJ,Nat.sub_zero] at h4'
   rw [hst,h4']
   obtain ⟨u1,u2⟩:=h4.put hi2 (allS a)
   refine Yf n hn a h p K KK hK r m (rem.eraseIdx j) _ (by rw [bD hj];omega) o1 (fun t ht=>h3 t ((o3 t).2 (aE ht))) u1 ?_
   have hp:(rem[j]::rem.eraseIdx j).Perm rem:=He hj
   have hc:=Perm.foldl_eq' (f:=fun (w:List Mp) (q:Int×Bool)=>w.set q.1.toNat (allS a)) hp (fun x _ y _ z=>by
    by_cases e:x.1.toNat=y.1.toNat
    ·simp only [e]
    ·exact List.set_comm _ _ e) (aval (ix,os))
   rw [foldl_cons,hi,aM] at hc
   unfold allS at u2 hc
   simp only [allS] at h5 ⊢
   rw [u2,hc]
   exact h5
theorem zez (n:Nat)(hn:20000000<n)(a:Aut)(h:AutR a)(p:Bq)(hp:PtOk a p):∃ out,Ny n p a=some out/\Dx a.fStates.length out/\∀ M∈out,M.length<n:=by
 have hst:=h.st
 unfold Ny
 simp only [aA,zlu,Aa]
 rw [zlb (by omega)]
 have hS:=zk6 0 a.fScopes.toNat [] (by simp [Srt]) (by simp)
 have hSl:=zi0 0 a.fScopes.toNat [] (by simp [Srt])
 have hsc:=h.sc
 have hfold:∀ (rem:Mp) (w:List Mp),Dx a.fStates.length w->(∀ M∈w,M.length<=64)->Dx a.fStates.length (rem.foldl (fun w q=>w.set q.1.toNat (allS a)) w)/\∀ M∈rem.foldl (fun w q=>w.set q.1.toNat (allS a)) w,M.length<=64:=fun rem=>by
  induction rem with
  |nil=>exact fun w h h'=>⟨h,h'⟩
  |cons q r ih =>
   intro w h h'
   rw [foldl_cons]
   refine ih _ (h.set _ ⟨hS.1.nodup,hS.2⟩) (fun M hM=>(aO hM).elim (h' M) (fun e=>?_))
   rw [e]
   unfold allS
   simp only [bU] at hSl
   omega
 have ha0:ArOk a.fStates.length (mkA Mp a.fStates.length):=⟨by simp [mkA],fun i j e=>by
  unfold mkA at e
  simp only [bJ] at e
  split at e<;>simp at e⟩
 have hv0:aval (mkA Mp a.fStates.length)=aY a.fStates.length []:=by
  unfold aval mkA
  simp
 obtain ⟨f1,f2⟩:=hfold p.finner (aY a.fStates.length []) ⟨by simp,fun M hM=>by rw [bH hM];exact MK.nil⟩ (fun M hM=>by rw [bH hM];simp)
 have ht:∀ w:List Mp,(∀ M∈w,M.length<=64)->tot w<=64*w.length:=fun w=>by
  unfold tot
  induction w with
  |nil=>simp
  |cons q r ih =>
   intro hq
   have:=ih (fun M hM=>hq M (bC _ hM))
   have:=hq q (by simp)
   simp only [bM,sum_cons,bF]
   omega
 have htt:=ht _ f2
 rw [f1.len] at htt
 obtain ⟨out,e1,e2,e3⟩:=Ye n (by omega) a h p hp n true _ (aF (by omega)) f1 (by omega)
 have hle:∀ M∈out,M.length<=tot out:=fun M hM=>by
  obtain ⟨i,hi,rfl⟩:=aP.1 hM
  have:=Wb hi []
  simp only [bU] at this
  omega
 refine ⟨out,?_,e2,fun M hM=>by have:=hle M hM;omega⟩
 have hil:p.finner.length<n:=by
  have hsub:(p.finner.map (·.1)).length<=((range a.fStates.length).map (fun (i:Nat)=>(i:Int))).length:=by
   refine Te hp.i.nd (fun t ht'=>?_)
   have:=hp.ir t ht'
   exact bL.2 ⟨t.toNat,mem_range.2 this.2,by omega⟩
  simp only [aA,length_range] at hsub
  omega
 refine Yf n (by omega) a h p _ (fun w=>Gi n a p (fun y=>some y) n (true,w)) (fun N m=>by simp only [zlg,Aa]) out n p.finner (mkA Mp a.fStates.length) hil hp.i hp.ir ha0 ?_
 rw [hv0]
 exact e1
def cvS (x y:Sta):Bool:=decide (x.fScope=y.fScope) && decide (y.fTime<=x.fTime)
def cvL:List Sta->List Sta->Bool
 |[],[]=>true
 |x::r,y::s=>cvS x y && cvL r s
 |_,_=>false
def rdB (m:Mp)(l:List Bd):List Bd:=l.filter (fun b=>(mlk m b.fVar).getD false)
def rdC (R:List Mp)(c:Cf):List Bd:=rdB (R.getD c.fState.toNat []) c.fBindings
def cov (R:List Mp)(c d:Cf):Bool:=decide (c.fState=d.fState) && (cvL c.fStarts d.fStarts && decide (rdC R c=rdC R d))
structure CS (R:List Mp) (c:Cf):Prop where
 st:0<=c.fState/\c.fState<(R.length:Int)
 lb:c.fBindings.length<=1000000
 ls:c.fStarts.length<=1000000
def cfO (l:List Cf):List Cf:=l.filter (fun d=>!decide (d.fState<0))
def maO (l:List Cf):List Ma:=(l.filter (fun d=>decide (d.fState<0))).map (fun d=>⟨d.fBindings⟩)
def zlf (a:Aut)(s:Int):List Ed:=a.fEdges.filter (fun x=>decide (x.fFrom=s))
def skP (a:Aut)(held:List Ev)(c:Cf)(e:Ev):Bool:=!(zcc a c.fState).any (vio (enH held c.fBindings) e)
def outP (a:Aut)(held:List Ev)(c:Cf)(e:Ev):List Cf:=(if skP a held c e=true then [c] else [])++(zlf a c.fState).filterMap (fun x=>coP a held c x e)
theorem zk5 {l:List Cf}{d:Cf}(h:d∈cfO l):d∈l/\0<=d.fState:=by
 have:=bB.1 h
 exact ⟨this.1,by simpa using this.2⟩
def Sz (k:Nat)(c:Cf):Prop:=c.fBindings.length<=k/\c.fStarts.length<=100*k
variable {c:Cf}
theorem Sz.ok (hk:k<=1001)(h:Sz k c):cfOk c=true:=(zhu c).2 ⟨by have:=h.1;omega,by have:=h.2;omega⟩
theorem W8 {d:Cf}(h:coP a held c x e=some d):d=⟨x.fTo,bdN c x e,(stN c x e).filter (ncl x)⟩:=by
 unfold coP at h
 simp_all
theorem zlk (hx:CxA a held)(hc:CB held a k c)(hxe:x∈a.fEdges){d:Cf}(h:coP a held c x e=some d):Sz (k+1) d:=by
 rw [W8 h]
 have h1:=hc.lb
 have h2:=hc.ls
 have h3:=hx.lo x hxe
 have h4:=zf0 e.fTime x.fOpens c.fStarts
 have h5:=bR (ncl x) (stN c x e)
 refine ⟨by unfold bdN;simp;omega,?_⟩
 unfold stN at h5 ⊢
 simp only
 omega
theorem CB.sz (h:CB held a k c):Sz k c:=⟨h.lb,h.ls⟩
theorem z8h {s:Int}(h:x∈zlf a s):x∈a.fEdges/\x.fFrom=s:=by
 have:=bB.1 h
 exact ⟨this.1,by simpa using this.2⟩
def cfN (a:Aut)(held:List Ev)(l:List Cf)(e:Ev):List Cf:=setL zlp (l.flatMap (fun c=>cfO (outP a held c e)))
def maN (a:Aut)(held:List Ev)(l:List Cf)(e:Ev):List Ma:=setL X5 (l.flatMap (fun c=>maO (outP a held c e)))
end Go.Proofs.YthbogefcfhmpgaaGreat
