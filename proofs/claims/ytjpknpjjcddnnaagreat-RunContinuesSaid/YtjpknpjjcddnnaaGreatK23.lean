/- Layer 8, plainly: the truth of expressions: the program's and the reference's agree. Searching in slices, plainly. Layer 23, plainly: checking automata: the program's and the reference's agree. Layer 25: the chapter's examples, worked out by the kernel. -/
import Derived.Test.YtjpknpjjcddnnaaGreatK22
import Derived.Test.YtjpknpjjcddnnaaGreatK21
set_option linter.unusedVariables false
set_option linter.unusedSimpArgs false
set_option maxRecDepth 100000
namespace Go.Proofs.YtjpknpjjcddnnaaGreat
open Go.RowKit
section
variable {α β:Type}
theorem nat_lit0 {len:Nat}(h:0<len)(k:Nat->Option β):nat 0 len k=k 0:=by have:=ze1 (i:=0) h k;simpa using this
theorem nat_lit1 {len:Nat}(h:1<len)(k:Nat->Option β):nat 1 len k=k 1:=by have:=ze1 (i:=1) h k;simpa using this
theorem idx_one {x y:α}{l:List α}(k:α->Option β):idx (x::y::l) 1 k=k y:=by have:=z0s (l:=x::y::l) (i:=1) (by simp) k;simpa using this
end
theorem w21:IntKind.wrap .i64 (((2:Nat):Int)-1)=1:=by decide
theorem w11:IntKind.wrap .i64 (((1:Nat):Int)-1)=0:=by decide
theorem p_apply2 (n:Nat)(op:Int)(h:5<=op/\op<=11)(x y:Va):∃ v,z6m n op [x,y]=some v /\
  (cnd (decide (op=9))
    (nat 0 (List.map z0a [x,y]).length fun x45=>elt [x,y] x45 fun x46=>nat 1 (List.map z0a [x,y]).length fun x47=>elt [x,y] x47 fun x48 =>
      bnd (z8q n (decide (x46.fKind=x48.fKind) && (decide (x46.fNum=x48.fNum) && ((x46.fText.toList == x48.fText.toList) && true)))) fun x49=>some (x49,(0:Int)))
  <| natc op 5 (bnd (zbg n x.fNum y.fNum) fun x54=>some (x54,0))
  <| natc op 6 (bnd (zbf n x.fNum y.fNum) fun x54=>some (x54,0))
  <| natc op 7 (bnd (zbe n x.fNum y.fNum) fun x54=>some (x54,0))
  <| natc op 8 (bnd (zbd n x.fNum y.fNum) fun x54=>some (x54,0))
  <| natc op 10 (bnd (zbc n x.fNum y.fNum) fun x54=>some (x54,0))
  <| natc op 11 (bnd (zbb n x.fNum y.fNum) fun x54=>some (x54,0))
  <| natc op 12 (bnd (z7z n x.fNum y.fNum) fun x54=>some (x54,0))
  <| none)=some (v,0):=by
 have:op=5\/op=6\/op=7\/op=8\/op=9\/op=10\/op=11:=by omega
 have l2:(List.map z0a [x,y]).length=2:=rfl
 have n0:∀ k:Nat->Option (Va×Int),nat 0 2 k=k 0:=fun k=>nat_lit0 (by omega) k
 have n1:∀ k:Nat->Option (Va×Int),nat 1 2 k=k 1:=fun k=>nat_lit1 (by omega) k
 have e0:∀ k:Va->Option (Va×Int),elt [x,y] 0 k=k x:=fun k=>zj7 (by simp) k
 have e1:∀ k:Va->Option (Va×Int),elt [x,y] 1 k=k y:=fun k=>zj7 (by simp) k
 unfold z6m zbg zbf zbe zbd zbc zbb z7z zbh
 simp only [l2,n0,n1,e0,e1,idx_zero,idx_one,z0o,natc_eq,p_flag,p_rflag,z09,z2s,z1r,z5y,z5x,z42,z41]
 rcases this with rfl|rfl|rfl|rfl|rfl|rfl|rfl
 ·exact ⟨_,rfl,rfl⟩
 ·exact ⟨_,rfl,rfl⟩
 ·exact ⟨_,rfl,rfl⟩
 ·exact ⟨_,rfl,rfl⟩
 ·exact ⟨_,rfl,rfl⟩
 ·by_cases q:x.fNum=1
  ·simp [q,z09]
  ·simp [q,z09]
 ·by_cases q:x.fNum=1
  ·simp [q,z09]
  ·simp [q,z09]
theorem p_apply1 (n:Nat)(x:Va):∃ v,z6m n 12 [x]=some v/\z7z n x.fNum x.fNum=some v:=by
 unfold z6m z7z
 simp only [idx_zero,z0o,p_flag,p_rflag,z09]
 exact ⟨_,rfl,rfl⟩
theorem ETrO.pos {s:Nat}{e:Exn}(h:ETrO s e):1<=s:=by cases h;omega
theorem p_eval_l1 (n:Nat)(l:List (Nat×Exn))(e:Exn)(ha:e.fArgs=l.map (fun p=>z1u p.2))(hl:l.length<=4000000)(a b:List (List Ev))(own:Int)(ev:Ev)
  (ih:∀ p∈l,∃ r,z5j n p.2 ⟨a⟩ own ev=some r/\z3u n ⟨b⟩ own ev p.2=some r) (K K':List Va->List Int->Option (Va×Int)) (hK:∀ vs,vs.length=l.length->∃ r,K vs (vs.map (·.fKind))=some r/\K' vs (vs.map (·.fKind))=some r) :
  ∀ (m k:Nat) (vs:List Va),k<=l.length->l.length<m+k->vs.length=k->∃ r,z72 n (z5j n) ev own ⟨a⟩ e K m ((k:Int),vs,vs.map (·.fKind))=some r/\z5i n (z3u n) e ev own ⟨b⟩ K' m ((k:Int),vs,vs.map (·.fKind))=some r
 |0,k,vs,h1,h2,_=>by omega
 |m+1,k,vs,h1,h2,h3=>by
  unfold z72 z5i
  simp only [ha,List.length_map,z0o,z0w]
  by_cases h:k<l.length
  ·have hlt:((k:Nat):Int)<((l.length:Nat):Int):=by omega
   simp only [hlt,if_true]
   rw [zwu h,zwu h]
   obtain ⟨⟨v,x⟩,r1,r2⟩:=ih l[k] (List.getElem_mem h)
   rw [r1,r2,z09,z09]
   by_cases hx:x=0
   ·simp only [hx,if_true]
    rw [zau (by simp;omega) (by omega),zau (by simp;omega) (by omega),zau (by simp;omega) (by omega),zau (by simp;omega) (by omega),z2n k (by omega)]
    have:=p_eval_l1 n l e ha hl a b own ev ih K K' hK m (k+1) (vs++[v]) (by omega) (by omega) (by simp;omega)
    simpa using this
   ·simp only [hx,if_false]
    exact ⟨_,rfl,rfl⟩
  ·have hlt:¬((k:Nat):Int)<((l.length:Nat):Int):=by omega
   simp only [hlt,if_false]
   exact hK vs (by omega)
theorem p_eval (a b:List (List Ev))(hab:∀ v,evs a v=evs b v)(hb:∀ v,(evs a v).length<=1000000)(own:Int)(ev:Ev):∀ (s:Nat) (e:Exn),ETrO s e->s<=4000000->∀ n,s+5000000<n->∃ r,z5j n e ⟨a⟩ own ev=some r/\z3u n ⟨b⟩ own ev e=some r:=by
 intro s
 induction s using Nat.strongRecOn with
 |ind s IH =>
  intro e ht hs n hn
  cases ht with
  |mk l e hnd h ha =>
   obtain ⟨n',rfl⟩:∃ n',n=n' + 1:=⟨n-1,by omega⟩
   have hl:l.length<=(l.map (·.1)).sum:=sum_len (l:=l) (fun p hp=>(h p hp).pos)
   obtain ⟨f1,f2,f3,f4⟩:=nd_facts hnd
   simp only [z5j,z3u,List.length_map,z0o,z0w]
   by_cases h0:e.fArgs.length=0
   ·have:((e.fArgs.length:Nat):Int)=0:=by omega
    simp only [this,if_true]
    obtain ⟨r,r1,r2⟩:=p_leaf n' (by omega) e hnd h0 a b hab hb own ev
    rw [r1,r2,z09]
    exact ⟨_,rfl,rfl⟩
   ·have:¬((e.fArgs.length:Nat):Int)=0:=by omega
    simp only [this,if_false]
    have hll:e.fArgs.length=l.length:=by rw [ha,List.length_map]
    have hop:5<=e.fOp/\e.fOp<=12/\(e.fOp=12->l.length=1)/\(e.fOp≠12->l.length=2):=by
     unfold arP at f1 f2
     by_cases q1:e.fOp<0
     ·rw [if_pos q1] at f1;omega
     by_cases q2:12<e.fOp
     ·rw [if_neg q1,if_pos q2] at f1;omega
     rw [if_neg q1,if_neg q2] at f2
     by_cases q3:e.fOp<5
     ·rw [if_pos q3] at f2;omega
     ·rw [if_neg q3] at f2
      by_cases q4:e.fOp=12
      ·rw [if_pos q4] at f2;omega
      ·rw [if_neg q4] at f2;omega
    refine p_eval_l1 n' l e ha (by omega) a b own ev (fun p hp=>by
     have:=sum_mem hp
     exact IH p.1 (by omega) p.2 (h p hp) (by omega) n' (by omega)) _ _ (fun vs hvs=>?_) n' 0 [] (by omega) (by omega) rfl
    obtain ⟨r,r1,r2,r3⟩:=y15 n' e.fOp ⟨hop.1,hop.2.1⟩ (vs.map (·.fKind)) (by rw [List.length_map];omega) n' 0 (by omega) (by rw [List.length_map];omega)
    simp only [Int.natCast_zero] at r1 r2
    unfold z9v zh3
    rw [r1,r2,z09,z09]
    by_cases hr:r=0
    ·simp only [hr,if_true]
     by_cases o12:e.fOp=12
     ·have hv1:vs.length=1:=by have:=hop.2.2.1 o12;omega
      match vs,hv1 with
      |[x],_ =>
       obtain ⟨v,v1,v2⟩:=p_apply1 n' x
       rw [o12,v1,z09]
       have n0:∀ k:Nat->Option (Va×Int),nat 0 1 k=k 0:=fun k=>nat_lit0 (by omega) k
       have e0:∀ k:Va->Option (Va×Int),elt [x] 0 k=k x:=fun k=>zj7 (by simp) k
       have l0:∀ z:Option (Va×Int),ltx 0 1 z=z:=fun z=>ltx_ok (by omega) z
       simp only [natc_eq,List.length_cons,List.length_nil,Nat.zero_add,w11,n0,e0,l0,v2,z09]
       exact ⟨_,rfl,rfl⟩
     ·have hv2:vs.length=2:=by have:=hop.2.2.2 o12;omega
      match vs,hv2 with
      |[x,y],_ =>
       obtain ⟨v,v1,v2⟩:=p_apply2 n' e.fOp ⟨hop.1,by omega⟩ x y
       rw [v1,z09]
       refine ⟨(v,0),rfl,?_⟩
       rw [<-v2]
       have n0:∀ k:Nat->Option (Va×Int),nat 0 2 k=k 0:=fun k=>nat_lit0 (by omega) k
       have n1:∀ k:Nat->Option (Va×Int),nat 1 2 k=k 1:=fun k=>nat_lit1 (by omega) k
       have e0:∀ k:Va->Option (Va×Int),elt [x,y] 0 k=k x:=fun k=>zj7 (by simp) k
       have e1:∀ k:Va->Option (Va×Int),elt [x,y] 1 k=k y:=fun k=>zj7 (by simp) k
       have l0:∀ z:Option (Va×Int),ltx 0 2 z=z:=fun z=>ltx_ok (by omega) z
       have l1:∀ z:Option (Va×Int),ltx 1 2 z=z:=fun z=>ltx_ok (by omega) z
       simp only [natc_eq,z0o,List.length_map,List.length_cons,List.length_nil,Nat.zero_add,Nat.reduceAdd,w21,n0,n1,e0,e1,l0,l1]
    ·simp only [hr,if_false]
     exact ⟨_,rfl,rfl⟩
theorem p_truth (a b:List (List Ev))(hab:∀ v,evs a v=evs b v)(hb:∀ v,(evs a v).length<=1000000)(own:Int)(ev:Ev)(s:Nat)(e:Exn)(ht:ETr s e)(hs:s<=4000000)(n:Nat)(hn:10000000<n) :
  ∃ r,z2h n e ⟨a⟩ own ev=some r/\zdd n e ⟨b⟩ own ev=some r:=by
 obtain ⟨c,c1,c2,c3⟩:=p_check s e ht hs n (by omega)
 unfold z2h zdd zct zu5
 rw [c1,c2]
 simp only [z09,z0o,z0w,p_flag,p_rflag,z2s,z1r,z43,zbj]
 by_cases hc:c=0
 ·simp only [hc,if_true]
  obtain ⟨r,r1,r2⟩:=p_eval a b hab hb own ev s e (c3 hc) hs n (by omega)
  rw [r1,r2]
  simp only [z09]
  split
  ·exact ⟨_,rfl,rfl⟩
  ·exact ⟨_,rfl,rfl⟩
 ·simp only [hc,if_false,z09]
  exact ⟨_,rfl,rfl⟩
end Go.Proofs.YtjpknpjjcddnnaaGreat
namespace Go.Proofs.YtjpknpjjcddnnaaGreat
open Go.RowKit
def fidx {α:Type}(p:α->Bool)(l:List α):Int:=match l.findIdx? p with|some j=>(j:Int)|none=>-1
theorem zso {α:Type}(p:α->Bool)(l:List α):decide (0<=fidx p l)=l.any p:=by
 unfold fidx
 rw [<-List.findIdx?_isSome]
 cases l.findIdx? p with
 |none=>rfl
 |some j=>simp
def y1h {α:Type}(p:α->Bool)(k:Nat)(l:List α):Int:=match l.findIdx? p with|some j=>((k+j:Nat):Int)|none=>-1
theorem zf4 {α:Type}(p:α->Bool)(k:Nat)(x:α)(l:List α):y1h p k (x::l)=if p x=true then (k:Int) else y1h p (k+1) l:=by
 unfold y1h
 rw [List.findIdx?_cons]
 by_cases h:p x=true
 ·rw [if_pos h,if_pos h];rfl
 ·rw [if_neg h,if_neg h]
  cases l.findIdx? p with
  |none=>rfl
  |some j =>
   simp only [Option.map_some]
   have:k+(j+1)=k+1+j:=by omega
   rw [this]
theorem zf3 {α:Type}(p:α->Bool)(l:List α):y1h p 0 l=fidx p l:=by
 unfold y1h fidx
 cases l.findIdx? p with
 |none=>rfl
 |some j=>simp
theorem p_idxI_l1 (n:Nat)(x:Int)(l:List Int)(hl:l.length<=1000000000):∀ (m k:Nat),k<=l.length->l.length<m+k->zam n x l (some (-1)) m (k:Int)=some (y1h (fun y=>decide (x=y)) k (l.drop k))
 |0,k,h1,h2=>by omega
 |m+1,k,h1,h2=>by
  unfold zam
  simp only [List.length_map,z0o]
  by_cases h:k<l.length
  ·rw [if_pos (by omega),z0s h,z0g l k h,zf4,z2n k (by omega),p_idxI_l1 n x l hl m (k+1) (by omega) (by omega)]
   by_cases hx:x=l[k]
   ·rw [if_pos hx,if_pos (by simpa using hx)]
   ·rw [if_neg hx,if_neg (by simpa using hx)]
  ·rw [if_neg (by omega),List.drop_eq_nil_of_le (by omega)]
   rfl
theorem zyt (n:Nat)(x:Int)(l:List Int)(hl:l.length<=1000000000)(hn:l.length<n):z73 n l x=some (l.any fun y=>decide (x=y)):=by
 unfold z73 zi6
 have:=p_idxI_l1 n x l hl n 0 (by omega) (by omega)
 simp only [Int.natCast_zero,List.drop_zero,zf3] at this
 rw [this,z09,zso]
theorem p_index_l1 (n:Nat)(a1c0:z0q)(p:z0q->Bool)(l:List z0q)(hl:l.length<=1000000000)(hb:∀ x∈l,z8w n x a1c0=some (p x)):∀ (m k:Nat),k<=l.length->l.length<m+k->z89 n a1c0 l (some (-1)) m (k:Int)=some (y1h p k (l.drop k))
 |0,k,h1,h2=>by omega
 |m+1,k,h1,h2=>by
  unfold z89
  simp only [List.length_map,z0o]
  by_cases h:k<l.length
  ·rw [if_pos (by omega),z0s h,z0g l k h,zf4,hb _ (List.getElem_mem h),z09,z2n k (by omega),p_index_l1 n a1c0 p l hl hb m (k+1) (by omega) (by omega)]
   cases p l[k]<;>simp [z3x]
  ·rw [if_neg (by omega),List.drop_eq_nil_of_le (by omega)]
   rfl
theorem p_index (n:Nat)(a1c0:z0q)(p:z0q->Bool)(l:List z0q)(hl:l.length<=1000000000)(hn:l.length<n)(hb:∀ x∈l,z8w n x a1c0=some (p x)):zc5 n l a1c0=some (fidx p l):=by
 unfold zc5
 have:=p_index_l1 n a1c0 p l hl hb n 0 (by omega) (by omega)
 simpa only [Int.natCast_zero,List.drop_zero,zf3] using this
theorem p_cont (n:Nat)(a1c0:z0q)(p:z0q->Bool)(l:List z0q)(hl:l.length<=1000000000)(hn:l.length<n)(hb:∀ x∈l,z8w n x a1c0=some (p x)):z8a n l a1c0=some (l.any p):=by
 unfold z8a
 rw [p_index n a1c0 p l hl hn hb,z09,zso]
theorem zzx (n:Nat)(p:z0z->Bool)(l:List z0z)(hl:l.length<=1000000000)(hb:∀ x∈l,z8r n x=some (p x)):∀ (m k:Nat),k<=l.length->l.length<m+k->z5d n l (some (-1)) m (k:Int)=some (y1h p k (l.drop k))
 |0,k,h1,h2=>by omega
 |m+1,k,h1,h2=>by
  unfold z5d
  simp only [List.length_map,z0o]
  by_cases h:k<l.length
  ·rw [if_pos (by omega),z0s h,z0g l k h,zf4,hb _ (List.getElem_mem h),z09,z2n k (by omega),zzx n p l hl hb m (k+1) (by omega) (by omega)]
   cases p l[k]<;>simp [z3x]
  ·rw [if_neg (by omega),List.drop_eq_nil_of_le (by omega)]
   rfl
theorem p_index_s34 (n:Nat)(p:z0z->Bool)(l:List z0z)(hl:l.length<=1000000000)(hn:l.length<n)(hb:∀ x∈l,z8r n x=some (p x)):z98 n l=some (fidx p l):=by
 unfold z98
 have:=zzx n p l hl hb n 0 (by omega) (by omega)
 simpa only [Int.natCast_zero,List.drop_zero,zf3] using this
theorem p_cont_s34 (n:Nat)(p:z0z->Bool)(l:List z0z)(hl:l.length<=1000000000)(hn:l.length<n)(hb:∀ x∈l,z8r n x=some (p x)):z5e n l=some (l.any p):=by
 unfold z5e
 rw [p_index_s34 n p l hl hn hb,z09,zso]
theorem zzv (n:Nat)(a1c0:z01)(p:z0p->Bool)(l:List z0p)(hl:l.length<=1000000000)(hb:∀ x∈l,zew n (⟨x.fVar,⟨x.fRef.fTime,x.fRef.fSource,x.fRef.fSeq⟩⟩:z0p) a1c0=some (p x)):∀ (m k:Nat),k<=l.length->l.length<m+k->z5b n a1c0 l (some (-1)) m (k:Int)=some (y1h p k (l.drop k))
 |0,k,h1,h2=>by omega
 |m+1,k,h1,h2=>by
  unfold z5b
  simp only [List.length_map,z0o]
  by_cases h:k<l.length
  ·rw [if_pos (by omega),z0s h,z0g l k h,zf4,hb _ (List.getElem_mem h),z09,z2n k (by omega),zzv n a1c0 p l hl hb m (k+1) (by omega) (by omega)]
   cases p l[k]<;>simp [z3x]
  ·rw [if_neg (by omega),List.drop_eq_nil_of_le (by omega)]
   rfl
theorem p_index_s90 (n:Nat)(a1c0:z01)(p:z0p->Bool)(l:List z0p)(hl:l.length<=1000000000)(hn:l.length<n)(hb:∀ x∈l,zew n (⟨x.fVar,⟨x.fRef.fTime,x.fRef.fSource,x.fRef.fSeq⟩⟩:z0p) a1c0=some (p x)):z96 n l a1c0=some (fidx p l):=by
 unfold z96
 have:=zzv n a1c0 p l hl hb n 0 (by omega) (by omega)
 simpa only [Int.natCast_zero,List.drop_zero,zf3] using this
theorem p_cont_s90 (n:Nat)(a1c0:z01)(p:z0p->Bool)(l:List z0p)(hl:l.length<=1000000000)(hn:l.length<n)(hb:∀ x∈l,zew n (⟨x.fVar,⟨x.fRef.fTime,x.fRef.fSource,x.fRef.fSeq⟩⟩:z0p) a1c0=some (p x)):z7s n l a1c0=some (l.any p):=by
 unfold z7s
 rw [p_index_s90 n a1c0 p l hl hn hb,z09,zso]
theorem zzw (n:Nat)(a1c0:z01)(p:z00->Bool)(l:List z00)(hl:l.length<=1000000000)(hb:∀ x∈l,zex n x a1c0=some (p x)):∀ (m k:Nat),k<=l.length->l.length<m+k->z5c n a1c0 l (some (-1)) m (k:Int)=some (y1h p k (l.drop k))
 |0,k,h1,h2=>by omega
 |m+1,k,h1,h2=>by
  unfold z5c
  simp only [List.length_map,z0o]
  by_cases h:k<l.length
  ·rw [if_pos (by omega),z0s h,z0g l k h,zf4,hb _ (List.getElem_mem h),z09,z2n k (by omega),zzw n a1c0 p l hl hb m (k+1) (by omega) (by omega)]
   cases p l[k]<;>simp [z3x]
  ·rw [if_neg (by omega),List.drop_eq_nil_of_le (by omega)]
   rfl
theorem p_index_s89 (n:Nat)(a1c0:z01)(p:z00->Bool)(l:List z00)(hl:l.length<=1000000000)(hn:l.length<n)(hb:∀ x∈l,zex n x a1c0=some (p x)):z97 n l a1c0=some (fidx p l):=by
 unfold z97
 have:=zzw n a1c0 p l hl hb n 0 (by omega) (by omega)
 simpa only [Int.natCast_zero,List.drop_zero,zf3] using this
theorem p_cont_s89 (n:Nat)(a1c0:z01)(p:z00->Bool)(l:List z00)(hl:l.length<=1000000000)(hn:l.length<n)(hb:∀ x∈l,zex n x a1c0=some (p x)):z7t n l a1c0=some (l.any p):=by
 unfold z7t
 rw [p_index_s89 n a1c0 p l hl hn hb,z09,zso]
theorem zws (n:Nat)(a1c0:z0h)(a1c1:z01)(p:z0q->Bool)(l:List z0q)(hl:l.length<=1000000000)(hb:∀ x∈l,z3h n x (⟨a1c0.fVars⟩:z0h) a1c1=some (p x)):∀ (m k:Nat),k<=l.length->l.length<m+k->z4m n a1c1 a1c0 l (some (-1)) m (k:Int)=some (y1h p k (l.drop k))
 |0,k,h1,h2=>by omega
 |m+1,k,h1,h2=>by
  unfold z4m
  simp only [List.length_map,z0o]
  by_cases h:k<l.length
  ·rw [if_pos (by omega),z0s h,z0g l k h,zf4,hb _ (List.getElem_mem h),z09,z2n k (by omega),zws n a1c0 a1c1 p l hl hb m (k+1) (by omega) (by omega)]
   cases p l[k]<;>simp [z3x]
  ·rw [if_neg (by omega),List.drop_eq_nil_of_le (by omega)]
   rfl
theorem p_index_s120 (n:Nat)(a1c0:z0h)(a1c1:z01)(p:z0q->Bool)(l:List z0q)(hl:l.length<=1000000000)(hn:l.length<n)(hb:∀ x∈l,z3h n x (⟨a1c0.fVars⟩:z0h) a1c1=some (p x)):z8p n l a1c0 a1c1=some (fidx p l):=by
 unfold z8p
 have:=zws n a1c0 a1c1 p l hl hb n 0 (by omega) (by omega)
 simpa only [Int.natCast_zero,List.drop_zero,zf3] using this
theorem p_cont_s120 (n:Nat)(a1c0:z0h)(a1c1:z01)(p:z0q->Bool)(l:List z0q)(hl:l.length<=1000000000)(hn:l.length<n)(hb:∀ x∈l,z3h n x (⟨a1c0.fVars⟩:z0h) a1c1=some (p x)):z79 n l a1c0 a1c1=some (l.any p):=by
 unfold z79
 rw [p_index_s120 n a1c0 a1c1 p l hl hn hb,z09,zso]
theorem zwr (n:Nat)(a1c0:z0j)(a1c1:z0h)(a1c2:z01)(p:z0q->Bool)(l:List z0q)(hl:l.length<=1000000000)(hb:∀ x∈l,z36 n x a1c0 (⟨a1c1.fVars⟩:z0h) a1c2=some (p x)):∀ (m k:Nat),k<=l.length->l.length<m+k->z4l n a1c2 a1c1 a1c0 l (some (-1)) m (k:Int)=some (y1h p k (l.drop k))
 |0,k,h1,h2=>by omega
 |m+1,k,h1,h2=>by
  unfold z4l
  simp only [List.length_map,z0o]
  by_cases h:k<l.length
  ·rw [if_pos (by omega),z0s h,z0g l k h,zf4,hb _ (List.getElem_mem h),z09,z2n k (by omega),zwr n a1c0 a1c1 a1c2 p l hl hb m (k+1) (by omega) (by omega)]
   cases p l[k]<;>simp [z3x]
  ·rw [if_neg (by omega),List.drop_eq_nil_of_le (by omega)]
   rfl
theorem p_index_s143 (n:Nat)(a1c0:z0j)(a1c1:z0h)(a1c2:z01)(p:z0q->Bool)(l:List z0q)(hl:l.length<=1000000000)(hn:l.length<n)(hb:∀ x∈l,z36 n x a1c0 (⟨a1c1.fVars⟩:z0h) a1c2=some (p x)):z8o n l a1c0 a1c1 a1c2=some (fidx p l):=by
 unfold z8o
 have:=zwr n a1c0 a1c1 a1c2 p l hl hb n 0 (by omega) (by omega)
 simpa only [Int.natCast_zero,List.drop_zero,zf3] using this
theorem p_cont_s143 (n:Nat)(a1c0:z0j)(a1c1:z0h)(a1c2:z01)(p:z0q->Bool)(l:List z0q)(hl:l.length<=1000000000)(hn:l.length<n)(hb:∀ x∈l,z36 n x a1c0 (⟨a1c1.fVars⟩:z0h) a1c2=some (p x)):z78 n l a1c0 a1c1 a1c2=some (l.any p):=by
 unfold z78
 rw [p_index_s143 n a1c0 a1c1 a1c2 p l hl hn hb,z09,zso]
theorem zwq (n:Nat)(a1c0:z0z)(p:z0c->Bool)(l:List z0c)(hl:l.length<=1000000000)(hb:∀ x∈l,zft n x a1c0=some (p x)):∀ (m k:Nat),k<=l.length->l.length<m+k->z4k n a1c0 l (some (-1)) m (k:Int)=some (y1h p k (l.drop k))
 |0,k,h1,h2=>by omega
 |m+1,k,h1,h2=>by
  unfold z4k
  simp only [List.length_map,z0o]
  by_cases h:k<l.length
  ·rw [if_pos (by omega),z0s h,z0g l k h,zf4,hb _ (List.getElem_mem h),z09,z2n k (by omega),zwq n a1c0 p l hl hb m (k+1) (by omega) (by omega)]
   cases p l[k]<;>simp [z3x]
  ·rw [if_neg (by omega),List.drop_eq_nil_of_le (by omega)]
   rfl
theorem p_index_s151 (n:Nat)(a1c0:z0z)(p:z0c->Bool)(l:List z0c)(hl:l.length<=1000000000)(hn:l.length<n)(hb:∀ x∈l,zft n x a1c0=some (p x)):z8n n l a1c0=some (fidx p l):=by
 unfold z8n
 have:=zwq n a1c0 p l hl hb n 0 (by omega) (by omega)
 simpa only [Int.natCast_zero,List.drop_zero,zf3] using this
theorem zwp (n:Nat)(a1c0:z0j)(p:z0c->Bool)(l:List z0c)(hl:l.length<=1000000000)(hb:∀ x∈l,z4y n x a1c0=some (p x)):∀ (m k:Nat),k<=l.length->l.length<m+k->z4j n a1c0 l (some (-1)) m (k:Int)=some (y1h p k (l.drop k))
 |0,k,h1,h2=>by omega
 |m+1,k,h1,h2=>by
  unfold z4j
  simp only [List.length_map,z0o]
  by_cases h:k<l.length
  ·rw [if_pos (by omega),z0s h,z0g l k h,zf4,hb _ (List.getElem_mem h),z09,z2n k (by omega),zwp n a1c0 p l hl hb m (k+1) (by omega) (by omega)]
   cases p l[k]<;>simp [z3x]
  ·rw [if_neg (by omega),List.drop_eq_nil_of_le (by omega)]
   rfl
theorem p_index_s156 (n:Nat)(a1c0:z0j)(p:z0c->Bool)(l:List z0c)(hl:l.length<=1000000000)(hn:l.length<n)(hb:∀ x∈l,z4y n x a1c0=some (p x)):z8m n l a1c0=some (fidx p l):=by
 unfold z8m
 have:=zwp n a1c0 p l hl hb n 0 (by omega) (by omega)
 simpa only [Int.natCast_zero,List.drop_zero,zf3] using this
end Go.Proofs.YtjpknpjjcddnnaaGreat
namespace Go.Proofs.YtjpknpjjcddnnaaGreat
open Go.RowKit
abbrev Gd:=z0q
abbrev Stt:=z9b
abbrev Ed:=z0j
abbrev Aut:=z05
def WfE (e:Exn):Prop:=∃ z,z<=4000000/\ETr z e
structure WfX (x:Ed):Prop where
 cond:WfE x.fCond
 checks:∃ ys:List Exn,x.fChecks=ys.map z1u/\∀ y∈ys,WfE y
 lc:x.fChecks.length<=1100000
 lo:x.fOpens.length<=1100000
 lcl:x.fCloses.length<=1100000
 li:x.fInside.length<=1100000
 ll:x.fLimits.length<=1100000
structure WfA (a:Aut):Prop where
 ls:a.fStates.length<=1100000
 le:a.fEdges.length<=1100000
 st:∀ s∈a.fStates,s.fGuards.length<=1100000/\∀ g∈s.fGuards,WfE g.fCond
 ed:∀ x∈a.fEdges,WfX x
theorem WfE.check {e:Exn}(h:WfE e)(n:Nat)(hn:10000000<n):∃ r:Int,z2i n e=some r/\zc8 n e=some r:=by
 obtain ⟨z,hz,ht⟩:=h
 obtain ⟨r,r1,r2,_⟩:=p_check z e ht hz n (by omega)
 exact ⟨r,r1,r2⟩
theorem p_out (n:Nat)(a b:Int):z14 n a b=some (decide (a<0) || decide (b<a)):=by
 unfold z14
 simp only [z2s,z1r,z5p,z0o]
 by_cases h:a<0<;>simp [h]
theorem p_within (n:Nat)(a b:Int):z37 n a b=some (decide (0<=a) && decide (a<b)):=by
 unfold z37
 simp only [z2s,z1r,z6r,z0o]
 by_cases h:0<=a<;>simp [h]
theorem zpy (a b:Int):(decide (a<0) || decide (b-1<a))=!(decide (0<=a) && decide (a<b)):=by
 by_cases h:a<0
 ·have:¬0<=a:=by omega
  simp [h,this]
 ·have:0<=a:=by omega
  by_cases h2:b-1<a
  ·have:¬a<b:=by omega
   simp [h,h2,this]
  ·have:a<b:=by omega
   simp [h,h2,this];omega
theorem any_take {α:Type}{q:α->Bool}{l:List α}{i k:Nat}(hk:k<i)(hi:i<=l.length):((l.take i).drop k).any q=(q (l[k]'(by omega)) || ((l.take i).drop (k+1)).any q):=by
 rw [z0g _ k (by simp;omega),List.any_cons,List.getElem_take]
theorem p_rguards_l2 (n:Nat)(l:List Gd)(a:Aut)(i:Nat)(hi:i<l.length)(hl:l.length<=1100000)(K:Option Int):∀ (m k:Nat),k<=i->i<m+k->z59 n l a (i:Int) K m (k:Int)=if ((l.take i).drop k).any (fun h=>decide (h.fScope=l[i].fScope))=true then some 7 else K
 |0,k,h1,h2=>by omega
 |m+1,k,h1,h2=>by
  unfold z59
  simp only [z0o]
  by_cases h:k<i
  ·rw [if_pos (by omega),z0s (by omega:k<l.length),z0s hi,any_take h (by omega),z2n k (by omega),p_rguards_l2 n l a i hi hl K m (k+1) (by omega) (by omega)]
   by_cases q:l[k].fScope=l[i].fScope
   ·simp [q]
   ·simp [q]
  ·rw [if_neg (by omega),List.drop_eq_nil_of_le (by simp;omega)]
   simp
theorem p_guards_l1 (n:Nat)(hn:10000000<n)(a:Aut)(hs:0<=a.fScopes/\a.fScopes<=64)(hv:0<=a.fVars/\a.fVars<=16)(l:List Gd)(hl:l.length<=1100000)(hw:∀ g∈l,WfE g.fCond):∀ (m k:Nat),k<=l.length->l.length<m+k->∃ r:Int,z1j n l a (some 0) m (k:Int)=some r/\z2k n l a (some 0) m (k:Int)=some r
 |0,k,h1,h2=>by omega
 |m+1,k,h1,h2=>by
  unfold z1j z2k
  simp only [List.length_map,z0o,z0w,z2s,z1r,z2g,z4e,p_out,p_within]
  by_cases h:k<l.length
  ·have hlt:((k:Nat):Int)<((l.length:Nat):Int):=by omega
   simp only [hlt,if_true,z0s h,z09]
   have wS:IntKind.wrap .i64 (a.fScopes-1)=a.fScopes-1:=zdf _ (by omega)
   have wV:IntKind.wrap .i64 (a.fVars-1)=a.fVars-1:=zdf _ (by omega)
   have e16:∀ x:Int,(decide (x<0) || decide (15<x))=!(decide (0<=x) && decide (x<16)):=fun x=>zpy x 16
   simp only [wS,wV,zpy,e16]
   obtain ⟨r,r1,r2⟩:=p_guards_l1 n hn a hs hv l hl hw m (k+1) (by omega) (by omega)
   obtain ⟨c,c1,c2⟩:=(hw _ (List.getElem_mem h)).check n hn
   have e1:=p_rguards_l2 n l a k h hl (bnd (z2i n l[k].fCond) fun x89=>if x89=0 then z1j n l a (some 0) m (IntKind.wrap .i64 ((k:Int)+1)) else some x89) n 0 (by omega) (by omega)
   simp only [Int.natCast_zero,List.drop_zero] at e1
   rw [e1,c1,c2]
   have e2:=zwl (l:=l) (a:=0) (b:=k) (Nat.zero_le _) (by omega) (fun x46=>bnd (z8a n x46 l[k]) fun x47=>cnd x47 (some (7:Int)) (bnd (some c) fun x48=>if x48=0 then z2k n l a (some 0) m (IntKind.wrap .i64 ((k:Int)+1)) else some x48))
   simp only [Int.natCast_zero,List.drop_zero] at e2
   rw [e2,p_cont n l[k] (fun h=>decide (h.fScope=l[k].fScope)) (l.take k) (by simp;omega) (by simp;omega) (fun x _=>rfl),z09,z2n k (by omega),r1,r2]
   simp only [z09]
   generalize (decide (0<=l[k].fScope) && decide (l[k].fScope<a.fScopes))=b1
   generalize (decide (0<=l[k].fType) && decide (l[k].fType<16))=b2
   generalize (decide (0<=l[k].fVar) && decide (l[k].fVar<a.fVars))=b3
   generalize ((l.take k).any fun h=>decide (h.fScope=l[k].fScope))=b4
   cases b1 with
   |false=>exact ⟨2,by simp [z3x],by simp [z3x]⟩
   |true=>cases b2 with
    |false=>exact ⟨2,by simp [z3x],by simp [z3x]⟩
    |true=>cases b3 with
     |false=>exact ⟨2,by simp [z3x],by simp [z3x]⟩
     |true=>cases b4 with
      |true=>exact ⟨7,by simp [z3x],by simp [z3x]⟩
      |false =>
       by_cases hc:c=0
       ·exact ⟨r,by simp [z3x,hc],by simp [z3x,hc]⟩
       ·exact ⟨c,by simp [z3x,hc],by simp [z3x,hc]⟩
  ·have hlt:¬((k:Nat):Int)<((l.length:Nat):Int):=by omega
   simp only [hlt,if_false]
   exact ⟨0,rfl,rfl⟩
theorem p_guards (n:Nat)(hn:10000000<n)(a:Aut)(hs:0<=a.fScopes/\a.fScopes<=64)(hv:0<=a.fVars/\a.fVars<=16)(l:List Gd)(hl:l.length<=1100000)(hw:∀ g∈l,WfE g.fCond):∃ r:Int,z93 n a l=some r/\zca n a l=some r:=by
 unfold z93 zca
 simp only [List.length_map,z0o]
 by_cases h:64<((l.length:Nat):Int)
 ·simp only [h,if_true];exact ⟨5,rfl,rfl⟩
 ·simp only [h,if_false]
  have:=p_guards_l1 n hn a hs hv l hl hw n 0 (by omega) (by omega)
  simpa only [Int.natCast_zero] using this
theorem p_uniq_l2 (n:Nat)(sc:Int)(l:List Int)(i:Nat)(hi:i<l.length)(hl:l.length<=1100000)(K:Option Int):∀ (m k:Nat),k<=i->i<m+k->z58 n sc l (i:Int) K m (k:Int)=if ((l.take i).drop k).any (fun h=>decide (l[i]=h))=true then some 7 else K
 |0,k,h1,h2=>by omega
 |m+1,k,h1,h2=>by
  unfold z58
  simp only [z0o]
  by_cases h:k<i
  ·rw [if_pos (by omega),z0s (by omega:k<l.length),z0s hi,any_take h (by omega),z2n k (by omega),p_uniq_l2 n sc l i hi hl K m (k+1) (by omega) (by omega)]
   by_cases q:l[k]=l[i]
   ·simp [q]
   ·have q':¬l[i]=l[k]:=fun e=>q e.symm
    simp [q,q']
  ·rw [if_neg (by omega),List.drop_eq_nil_of_le (by simp;omega)]
   simp
theorem p_scopes_l2 (n:Nat)(hn:10000000<n)(a:Aut)(hs:0<=a.fScopes/\a.fScopes<=64)(A:List (List Int))(j:Int)(l:List Int)(hl:l.length<=1100000)(K:Option Int):∀ (m k:Nat),k<=l.length->l.length<m+k->∃ r:Int,z3e n a.fScopes l (some 0) m (k:Int)=some r/\z38 n A a j l K m (k:Int)=(if r=0 then K else some r)/\(r=0->∀ y∈l.drop k,0<=y/\y<a.fScopes)
 |0,k,h1,h2=>by omega
 |m+1,k,h1,h2=>by
  unfold z3e z38
  simp only [List.length_map,z0o,z0w,p_out,p_within]
  by_cases h:k<l.length
  ·have hlt:((k:Nat):Int)<((l.length:Nat):Int):=by omega
   simp only [hlt,if_true,z0s h,z09]
   rw [zdf _ (by omega),zpy]
   obtain ⟨r,r1,r2,r3⟩:=p_scopes_l2 n hn a hs A j l hl K m (k+1) (by omega) (by omega)
   have e1:=p_uniq_l2 n a.fScopes l k h hl (z3e n a.fScopes l (some 0) m (IntKind.wrap .i64 ((k:Int)+1))) n 0 (by omega) (by omega)
   simp only [Int.natCast_zero,List.drop_zero] at e1
   have e2:=zwl (l:=l) (a:=0) (b:=k) (Nat.zero_le _) (by omega) (fun x84=>bnd (z73 n x84 l[k]) fun x85=>cnd x85 (some (7:Int)) (z38 n A a j l K m (IntKind.wrap .i64 ((k:Int)+1))))
   simp only [Int.natCast_zero,List.drop_zero] at e2
   rw [e1,e2,zyt n l[k] (l.take k) (by simp;omega) (by simp;omega),z09,z2n k (by omega),r1,r2]
   have hr:(decide (0<=l[k]) && decide (l[k]<a.fScopes))=true->0<=l[k]/\l[k]<a.fScopes:=fun h=>by simpa using h
   rw [z0g l k h]
   revert hr
   generalize (decide (0<=l[k]) && decide (l[k]<a.fScopes))=b1
   generalize ((l.take k).any fun y=>decide (l[k]=y))=b4
   intro hr
   cases b1 with
   |false=>exact ⟨2,by simp [z3x],by simp [z3x],fun h=>by cases h⟩
   |true=>cases b4 with
    |true=>exact ⟨7,by simp [z3x],by simp [z3x],fun h=>by cases h⟩
    |false =>
     refine ⟨r,by simp [z3x],by simp [z3x],fun h y hy=>?_⟩
     rcases List.mem_cons.1 hy with k|k
     ·rw [k];exact hr rfl
     ·exact r3 h y k
  ·have hlt:¬((k:Nat):Int)<((l.length:Nat):Int):=by omega
   simp only [hlt,if_false]
   exact ⟨0,rfl,by simp,fun _ y hy=>by rw [List.drop_eq_nil_of_le (by omega)] at hy;simp at hy⟩
theorem p_lim_l1 (n:Nat)(x:Ed)(a:Aut)(hl:x.fLimits.length<=1100000)(K K':List Int->Option Int)(r:Option Int)(h1:K (x.fLimits.map (·.fScope))=r):∀ (m k:Nat) (acc:List Int),k<=x.fLimits.length->x.fLimits.length<m+k->acc=(x.fLimits.take k).map (·.fScope)->z65 n x a K m ((k:Int),acc)=r
 |0,k,acc,h2,h3,_=>by omega
 |m+1,k,acc,h2,h3,h4=>by
  unfold z65
  simp only [List.length_map,z0o]
  by_cases h:k<x.fLimits.length
  ·rw [if_pos (by omega),z0s h,zau (by subst h4;simp;omega) (by omega),z2n k (by omega)]
   exact p_lim_l1 n x a hl K K' r h1 m (k+1) _ (by omega) (by omega) (by subst h4;rw [List.take_succ_eq_append_getElem h,List.map_append];rfl)
  ·rw [if_neg (by omega)]
   subst h4
   rw [List.take_of_length_le (by omega)]
   exact h1
theorem p_limited_l1 (n:Nat)(l:List z0z)(hl:l.length<=1100000):∀ (m k:Nat) (acc:List Int),k<=l.length->l.length<m+k->acc=(l.take k).map (·.fScope)->z7q n l (fun y=>some y) m ((k:Int),acc)=some (l.map (·.fScope))
 |0,k,acc,h2,h3,_=>by omega
 |m+1,k,acc,h2,h3,h4=>by
  unfold z7q
  simp only [List.length_map,z0o]
  by_cases h:k<l.length
  ·rw [if_pos (by omega),z0s h,zau (by subst h4;simp;omega) (by omega),z2n k (by omega)]
   exact p_limited_l1 n l hl m (k+1) _ (by omega) (by omega) (by subst h4;rw [List.take_succ_eq_append_getElem h,List.map_append];rfl)
  ·rw [if_neg (by omega)]
   subst h4
   rw [List.take_of_length_le (by omega)]
theorem p_limited (n:Nat)(hn:10000000<n)(l:List z0z)(hl:l.length<=1100000):z9g n l=some (l.map (·.fScope)):=by
 unfold z9g
 exact p_limited_l1 n l hl n 0 [] (by omega) (by omega) (by simp)
theorem p_span_l1 (n:Nat)(x:Ed)(hl:x.fLimits.length<=1100000):∀ (m k:Nat),k<=x.fLimits.length->x.fLimits.length<m+k->z40 n x (some 0) m (k:Int)=some (if (x.fLimits.drop k).any (fun l=>decide (l.fSpan<0) || decide (1099511627776<l.fSpan))=true then 2 else 0)
 |0,k,h1,h2=>by omega
 |m+1,k,h1,h2=>by
  unfold z40
  simp only [List.length_map,z0o,p_out,z09]
  by_cases h:k<x.fLimits.length
  ·rw [if_pos (by omega),z0s h,z0g _ k h,List.any_cons,z2n k (by omega),p_span_l1 n x hl m (k+1) (by omega) (by omega)]
   generalize (decide (x.fLimits[k].fSpan<0) || decide (1099511627776<x.fLimits[k].fSpan))=b
   cases b<;>simp [z3x]
  ·rw [if_neg (by omega),List.drop_eq_nil_of_le (by omega)]
   rfl
theorem p_lists (n:Nat)(hn:10000000<n)(a:Aut)(hs:0<=a.fScopes/\a.fScopes<=64)(x:Ed)(hx:WfX x):∃ r:Int,z81 n a x=some r /\
  (bnd (z9g n x.fLimits) fun x46=>bnd (zc9 n a ([x.fOpens,x.fCloses,x.fInside,x46])) fun x47=>if x47=0 then (bnd (z5e n x.fLimits) fun x48=>cnd x48 (some (2:Int)) (some 0)) else some x47)=some r/\(r=0->∀ y∈x.fOpens,0<=y/\y<a.fScopes):=by
 have hsp:=p_span_l1 n x hx.ll n 0 (by omega) (by have:=hx.ll;omega)
 simp only [Int.natCast_zero,List.drop_zero] at hsp
 rw [p_limited n hn x.fLimits hx.ll,z09]
 have hcs:=p_cont_s34 n (fun l=>decide (l.fSpan<0) || decide (1099511627776<l.fSpan)) x.fLimits (by have:=hx.ll;omega) (by have:=hx.ll;omega) (fun y _=>by
  unfold z8r
  simp only [z2s,z1r,z6s,z0o]
  by_cases q:y.fSpan<0<;>simp [q])
 rw [hcs]
 simp only [z09]
 have hlm:(x.fLimits.map (·.fScope)).length<=1100000:=by rw [List.length_map];exact hx.ll
 generalize hS:x.fLimits.map (·.fScope)=S at *
 generalize (x.fLimits.any fun l=>decide (l.fSpan<0) || decide (1099511627776<l.fSpan))=sp at *
 unfold zc9
 -- the four lists
 have step:∀ (l:List Int),l.length<=1100000->∀ (j:Int) (K:Option Int),∃ r:Int,z7k n l a.fScopes=some r/\z38 n [x.fOpens,x.fCloses,x.fInside,S] a j l K n 0=(if r=0 then K else some r)/\(r=0->∀ y∈l,0<=y/\y<a.fScopes):=fun l hl j K=>by
  have:=p_scopes_l2 n hn a hs [x.fOpens,x.fCloses,x.fInside,S] j l hl K n 0 (by omega) (by omega)
  unfold z7k
  simpa only [Int.natCast_zero,List.drop_zero] using this
 have uq:∀ l:List Int,l.length<=1100000->∃ r:Int,z7k n l a.fScopes=some r/\(∀ (j:Int) (K:Option Int),z38 n [x.fOpens,x.fCloses,x.fInside,S] a j l K n 0=if r=0 then K else some r)/\(r=0->∀ y∈l,0<=y/\y<a.fScopes):=fun l hl=>by
  obtain ⟨r,r1,_,r3⟩:=step l hl 0 none
  refine ⟨r,r1,fun j K=>?_,r3⟩
  obtain ⟨r',r1',r2',_⟩:=step l hl j K
  rw [r1] at r1'
  injection r1' with e
  rw [r2',e]
 obtain ⟨u1,a1,b1,d1⟩:=uq x.fOpens hx.lo
 obtain ⟨u2,a2,b2,_⟩:=uq x.fCloses hx.lcl
 obtain ⟨u3,a3,b3,_⟩:=uq x.fInside hx.li
 obtain ⟨u4,a4,b4,_⟩:=uq S hlm
 have w0:IntKind.wrap .i64 ((0:Int)+1)=1:=by decide
 have w1:IntKind.wrap .i64 ((1:Int)+1)=2:=by decide
 have w2:IntKind.wrap .i64 ((2:Int)+1)=3:=by decide
 have w3:IntKind.wrap .i64 ((3:Int)+1)=4:=by decide
 have i0:∀ K:List Int->Option Int,idx ([x.fOpens,x.fCloses,x.fInside,S]:List (List Int)) 0 K=K x.fOpens:=fun K=>by have:=z0s (l:=[x.fOpens,x.fCloses,x.fInside,S]) (i:=0) (by simp) K;simpa using this
 have i1:∀ K:List Int->Option Int,idx ([x.fOpens,x.fCloses,x.fInside,S]:List (List Int)) 1 K=K x.fCloses:=fun K=>by have:=z0s (l:=[x.fOpens,x.fCloses,x.fInside,S]) (i:=1) (by simp) K;simpa using this
 have i2:∀ K:List Int->Option Int,idx ([x.fOpens,x.fCloses,x.fInside,S]:List (List Int)) 2 K=K x.fInside:=fun K=>by have:=z0s (l:=[x.fOpens,x.fCloses,x.fInside,S]) (i:=2) (by simp) K;simpa using this
 have i3:∀ K:List Int->Option Int,idx ([x.fOpens,x.fCloses,x.fInside,S]:List (List Int)) 3 K=K S:=fun K=>by have:=z0s (l:=[x.fOpens,x.fCloses,x.fInside,S]) (i:=3) (by simp) K;simpa using this
 have hm:∃ m,n=m+1+1+1+1+1:=⟨n-5,by omega⟩
 have rl:∀ K:Option Int,z1v n x a S K n 0=if u1=0 then (if u2=0 then (if u3=0 then (if u4=0 then K else some u4) else some u3) else some u2) else some u1:=fun K=>by
  obtain ⟨m,hm⟩:=hm
  conv=>lhs;rw [show z1v n x a S K n 0=z1v n x a S K (m+1+1+1+1+1) 0 by rw [<-hm]]
  simp only [z1v,z0o,z0w,i0,i1,i2,i3,w0,w1,w2,w3,a1,a2,a3,a4,z09]
  simp
 have pl:∀ K:Option Int,z4d n [x.fOpens,x.fCloses,x.fInside,S] a K n 0=if u1=0 then (if u2=0 then (if u3=0 then (if u4=0 then K else some u4) else some u3) else some u2) else some u1:=fun K=>by
  obtain ⟨m,hm⟩:=hm
  conv=>lhs;rw [show z4d n [x.fOpens,x.fCloses,x.fInside,S] a K n 0=z4d n [x.fOpens,x.fCloses,x.fInside,S] a K (m+1+1+1+1+1) 0 by rw [<-hm]]
  simp only [z4d,z0o,i0,i1,i2,i3,w0,w1,w2,w3,List.length_map,List.length_cons,List.length_nil,b1,b2,b3,b4]
  simp
 unfold z81
 have el:=p_lim_l1 n x a hx.ll (fun k1_0_0y=>frz 7026 <| reg <| z1v n x a k1_0_0y (z40 n x (some 0) n 0) n 0) (fun _=>none) _ rfl n 0 [] (by omega) (by have:=hx.ll;omega) (by simp)
 simp only [Int.natCast_zero] at el
 rw [el,hS,frz_eq,z1r,rl,hsp,pl]
 by_cases q1:u1=0
 rotate_left
 ·exact ⟨u1,by simp [q1],by simp [q1,z09],fun h=>absurd h q1⟩
 by_cases q2:u2=0
 rotate_left
 ·exact ⟨u2,by simp [q1,q2],by simp [q1,q2,z09],fun h=>absurd h q2⟩
 by_cases q3:u3=0
 rotate_left
 ·exact ⟨u3,by simp [q1,q2,q3],by simp [q1,q2,q3,z09],fun h=>absurd h q3⟩
 by_cases q4:u4=0
 rotate_left
 ·exact ⟨u4,by simp [q1,q2,q3,q4],by simp [q1,q2,q3,q4,z09],fun h=>absurd h q4⟩
 cases sp with
 |true=>exact ⟨2,by simp [q1,q2,q3,q4],by simp [q1,q2,q3,q4,z09,z3x],fun h=>by cases h⟩
 |false=>exact ⟨0,by simp [q1,q2,q3,q4],by simp [q1,q2,q3,q4,z09,z3x],fun _=>d1 q1⟩
theorem p_checks_l1 (n:Nat)(hn:10000000<n)(x:Ed)(a:Aut)(ys:List Exn)(hy:x.fChecks=ys.map z1u)(hw:∀ y∈ys,WfE y)(hl:ys.length<=1100000)(P:Prop)(K K':Option Int)(hK:∃ r:Int,K=some r/\K'=some r/\(r=0->P)):∀ (m k:Nat),k<=ys.length->ys.length<m+k->∃ r:Int,z6y n x a K m (k:Int)=some r/\z9h n x a K' m (k:Int)=some r/\(r=0->P)
 |0,k,h1,h2=>by omega
 |m+1,k,h1,h2=>by
  unfold z6y z9h
  simp only [hy,List.length_map,z0o,z0w]
  by_cases h:k<ys.length
  ·have hlt:((k:Nat):Int)<((ys.length:Nat):Int):=by omega
   simp only [hlt,if_true]
   have hi:∀ (Q:Exn->Option Int),idxD z3a (ys.map z1u) (k:Int) Q=Q ys[k]:=fun Q=>by
    have:=zwu (l:=ys.map fun y=>(0,y)) (k:=k) (by simpa using h) Q
    simp only [List.map_map,List.getElem_map] at this
    exact this
   rw [hi,hi]
   obtain ⟨c,c1,c2⟩:=(hw _ (List.getElem_mem h)).check n hn
   obtain ⟨r,r1,r2,r3⟩:=p_checks_l1 n hn x a ys hy hw hl P K K' hK m (k+1) (by omega) (by omega)
   rw [c1,c2,z09,z09,z2n k (by omega),r1,r2]
   by_cases hc:c=0
   ·exact ⟨r,by simp [hc],by simp [hc],r3⟩
   ·exact ⟨c,by simp [hc],by simp [hc],fun h=>absurd h hc⟩
  ·have hlt:¬((k:Nat):Int)<((ys.length:Nat):Int):=by omega
   simp only [hlt,if_false]
   exact hK
structure EdOk (a:Aut) (x:Ed):Prop where
 frm:0<=x.fFrom/\x.fFrom<a.fStates.length
 tgt:-1<=x.fTo/\x.fTo<a.fStates.length
 var:0<=x.fVar/\x.fVar<a.fVars
 opn:∀ y∈x.fOpens,0<=y/\y<a.fScopes
theorem p_edge (n:Nat)(hn:10000000<n)(a:Aut)(hs:0<=a.fScopes/\a.fScopes<=64)(hv:0<=a.fVars/\a.fVars<=16)(hst:1<=a.fStates.length/\a.fStates.length<=256)(x:Ed)(hx:WfX x)(before:Int):∃ r:Int,za5 n a x before=some r/\zdv n a x before=some r/\(r=0->EdOk a x):=by
 unfold za5 zdv
 simp only [List.length_map,z0o,z0w,z2s,z1r,p_out,p_within,z09]
 have wS:IntKind.wrap .i64 (((a.fStates.length:Nat):Int)-1)=((a.fStates.length:Nat):Int)-1:=zdf _ (by omega)
 have wV:IntKind.wrap .i64 (a.fVars-1)=a.fVars-1:=zdf _ (by omega)
 have e16:∀ x:Int,(decide (x<0) || decide (15<x))=!(decide (0<=x) && decide (x<16)):=fun x=>zpy x 16
 simp only [wS,wV,zpy,e16]
 have tailE:∃ r:Int,z11 n before x a false=some r/\z1q n before x a false=some r/\(r=0->∀ y∈x.fOpens,0<=y/\y<a.fScopes):=by
  unfold z11 z1q
  simp only [List.length_map,z0o,z0w,z8k]
  by_cases hb:x.fFrom<before
  ·exact ⟨14,by simp [hb],by simp [hb],fun h=>by cases h⟩
  simp only [hb,if_false]
  obtain ⟨c,c1,c2⟩:=hx.cond.check n hn
  rw [c1,c2,z09,z09]
  by_cases hc:c=0
  rotate_left
  ·exact ⟨c,by simp [hc],by simp [hc],fun h=>absurd h hc⟩
  simp only [hc,if_true]
  by_cases h64:64<((x.fChecks.length:Nat):Int)
  ·exact ⟨5,by simp [h64],by simp [h64],fun h=>by cases h⟩
  simp only [h64,if_false]
  obtain ⟨ys,hy,hw⟩:=hx.checks
  obtain ⟨r,r1,r2,r3⟩:=p_lists n hn a hs x hx
  have hyl:ys.length<=1100000:=by have:=hx.lc;rw [hy,List.length_map] at this;exact this
  have:=p_checks_l1 n hn x a ys hy hw hyl (∀ y∈x.fOpens,0<=y/\y<a.fScopes) (bnd (z81 n a x) fun x49=>some x49) _ ⟨r,by rw [r1,z09],r2,r3⟩ n 0 (by omega) (by omega)
  simpa only [Int.natCast_zero] using this
 have e2:z11 n before x a true=some 2/\z1q n before x a true=some 2:=by
  unfold z11 z1q
  exact ⟨z80 _ _,z80 _ _⟩
 obtain ⟨r,r1,r2,r3⟩:=tailE
 rw [e2.1,e2.2]
 by_cases h1:0<=x.fFrom/\x.fFrom<((a.fStates.length:Nat):Int)
 rotate_left
 ·have:(decide (0<=x.fFrom) && decide (x.fFrom<((a.fStates.length:Nat):Int)))=false:=by
   rw [Bool.and_eq_false_iff,decide_eq_false_iff_not,decide_eq_false_iff_not];omega
  exact ⟨2,by simp [this,z3x],by simp [this,z3x],fun h=>by cases h⟩
 have b1:(decide (0<=x.fFrom) && decide (x.fFrom<((a.fStates.length:Nat):Int)))=true:=by simp [h1.1];omega
 by_cases h2:-1<=x.fTo/\x.fTo<((a.fStates.length:Nat):Int)
 rotate_left
 ·have q1:¬x.fTo=-1:=by omega
  have q2:(decide (0<=x.fTo) && decide (x.fTo<((a.fStates.length:Nat):Int)))=false:=by
   rw [Bool.and_eq_false_iff,decide_eq_false_iff_not,decide_eq_false_iff_not];omega
  refine ⟨2,by simp [b1,q1,q2,z3x],?_,fun h=>by cases h⟩
  by_cases q3:x.fTo < -1
  ·simp [b1,q3,z3x]
  ·have q4:((a.fStates.length:Nat):Int)<=x.fTo:=by omega
   simp [b1,q3,q4,z3x]
 have n1:¬x.fTo < -1:=by omega
 have n2:¬((a.fStates.length:Nat):Int)<=x.fTo:=by omega
 have ok:(decide (0<=x.fVar) && decide (x.fVar<a.fVars))=true->r=0->EdOk a x:=fun h hr=>by
  simp only [Bool.and_eq_true,decide_eq_true_eq] at h
  exact ⟨⟨h1.1,h1.2⟩,⟨h2.1,h2.2⟩,h,r3 hr⟩
 have b2:¬x.fTo=-1->(decide (0<=x.fTo) && decide (x.fTo<((a.fStates.length:Nat):Int)))=true:=fun h=>by simp only [Bool.and_eq_true,decide_eq_true_eq];omega
 revert ok
 generalize (decide (0<=x.fVar) && decide (x.fVar<a.fVars))=b3
 generalize (decide (0<=x.fType) && decide (x.fType<16))=b4
 intro ok
 simp only [b1,n1,n2,if_false,z80,Bool.not_true]
 cases b3 with
 |false =>
  refine ⟨2,?_,by simp [z3x],fun h=>by cases h⟩
  by_cases q:x.fTo=-1
  ·simp [q,z3x]
  ·simp [q,b2 q,z3x]
 |true =>
  cases b4 with
  |false =>
   refine ⟨2,?_,by simp [z3x,e2.2],fun h=>by cases h⟩
   by_cases q:x.fTo=-1
   ·simp [q,z3x,e2.1]
   ·simp [q,b2 q,z3x,e2.1]
  |true =>
   refine ⟨r,?_,by simp [z3x,r2],fun q=>ok rfl q⟩
   by_cases q:x.fTo=-1
   ·simp [q,z3x,r1]
   ·simp [q,b2 q,z3x,r1]
theorem p_edges_l2 (n:Nat)(hn:10000000<n)(a:Aut)(hs:0<=a.fScopes/\a.fScopes<=64)(hv:0<=a.fVars/\a.fVars<=16)(hst:1<=a.fStates.length/\a.fStates.length<=256)(hw:WfA a):∀ (m k:Nat) (before:Int),k<=a.fEdges.length->a.fEdges.length<m+k->(∀ x∈a.fEdges.take k,EdOk a x)->∃ r:Int,z67 n a (some 0) m (before,(k:Int))=some r/\z8x n a (some 0) m (before,(k:Int))=some r/\(r=0->∀ x∈a.fEdges,EdOk a x)
 |0,k,before,h1,h2,_=>by omega
 |m+1,k,before,h1,h2,h3=>by
  have hle:=hw.le
  unfold z67 z8x
  simp only [List.length_map,z0o,z0w]
  by_cases h:k<a.fEdges.length
  ·have hlt:((k:Nat):Int)<((a.fEdges.length:Nat):Int):=by omega
   simp only [hlt,if_true,z0s h]
   obtain ⟨c,c1,c2,c3⟩:=p_edge n hn a hs hv hst _ (hw.ed _ (List.getElem_mem h)) before
   rw [c1,c2,z09,z09,z2n k (by omega)]
   by_cases hc:c=0
   ·simp only [hc,if_true]
    refine p_edges_l2 n hn a hs hv hst hw m (k+1) _ (by omega) (by omega) (fun x hx=>?_)
    rw [List.take_succ_eq_append_getElem h,List.mem_append,List.mem_singleton] at hx
    rcases hx with hx|hx
    ·exact h3 x hx
    ·subst hx;exact c3 hc
   ·exact ⟨c,by simp [hc],by simp [hc],fun q=>absurd q hc⟩
  ·have hlt:¬((k:Nat):Int)<((a.fEdges.length:Nat):Int):=by omega
   simp only [hlt,if_false]
   rw [List.take_of_length_le (by omega)] at h3
   exact ⟨0,rfl,rfl,fun _=>h3⟩
theorem p_states_l1 (n:Nat)(hn:10000000<n)(a:Aut)(hs:0<=a.fScopes/\a.fScopes<=64)(hv:0<=a.fVars/\a.fVars<=16)(hw:WfA a)(K K':Option Int)(P:Prop)(hK:∃ r:Int,K=some r/\K'=some r/\(r=0->P)):∀ (m k:Nat),k<=a.fStates.length->a.fStates.length<m+k->∃ r:Int,z68 n a K m (k:Int)=some r/\z8y n a K' m (k:Int)=some r/\(r=0->P)
 |0,k,h1,h2=>by omega
 |m+1,k,h1,h2=>by
  have hls:=hw.ls
  unfold z68 z8y
  simp only [List.length_map,z0o,z0w]
  by_cases h:k<a.fStates.length
  ·have hlt:((k:Nat):Int)<((a.fStates.length:Nat):Int):=by omega
   simp only [hlt,if_true,z0s h]
   obtain ⟨g1,g2⟩:=hw.st _ (List.getElem_mem h)
   obtain ⟨c,c1,c2⟩:=p_guards n hn a hs hv _ g1 g2
   rw [c1,c2,z09,z09,z2n k (by omega)]
   by_cases hc:c=0
   ·simp only [hc,if_true]
    exact p_states_l1 n hn a hs hv hw K K' P hK m (k+1) (by omega) (by omega)
   ·exact ⟨c,by simp [hc],by simp [hc],fun q=>absurd q hc⟩
  ·have hlt:¬((k:Nat):Int)<((a.fStates.length:Nat):Int):=by omega
   simp only [hlt,if_false]
   exact hK
structure AOk (a:Aut):Prop where
 vars:0<=a.fVars/\a.fVars<=16
 st:1<=a.fStates.length/\a.fStates.length<=256
 ed:∀ x∈a.fEdges,EdOk a x
theorem p_acheck (n:Nat)(hn:10000000<n)(a:Aut)(hw:WfA a):∃ r:Int,z6k n a=some r/\zd8 n a=some r/\(r=0->AOk a):=by
 have hls:=hw.ls
 have hle:=hw.le
 unfold z6k zd8
 simp only [z2s,z1r,p_out,z09,z0o]
 have e2:z1w n a true=some 2/\z29 n a true=some 2:=by
  unfold z1w z29
  exact ⟨z80 _ _,z80 _ _⟩
 rw [e2.1,e2.2]
 by_cases hv:0<=a.fVars/\a.fVars<=16
 rotate_left
 ·refine ⟨2,?_,?_,fun h=>by cases h⟩
  ·have:(decide (a.fVars<0) || decide (16<a.fVars))=true:=by
    rw [Bool.or_eq_true,decide_eq_true_eq,decide_eq_true_eq];omega
   rw [this,z80]
  ·by_cases q:a.fVars<0
   ·rw [if_pos q]
   ·rw [if_neg q,if_pos (by omega)]
 have q1:¬a.fVars<0:=by omega
 have q2:¬16<a.fVars:=by omega
 by_cases hs:0<=a.fScopes/\a.fScopes<=64
 rotate_left
 ·have:(decide (a.fScopes<0) || decide (64<a.fScopes))=true:=by
   rw [Bool.or_eq_true,decide_eq_true_eq,decide_eq_true_eq];omega
  refine ⟨2,by simp [q1,q2,this,z3x,e2.1],?_,fun h=>by cases h⟩
  by_cases q:a.fScopes<0
  ·simp [q1,q2,q]
  ·have:64<a.fScopes:=by omega
   simp [q1,q2,q,this,e2.2]
 have q3:¬a.fScopes<0:=by omega
 have q4:¬64<a.fScopes:=by omega
 simp only [q1,q2,q3,q4,if_false,decide_false,Bool.or_false,z8k]
 unfold z1w z29
 simp only [z2s,z1r,List.length_map,z0o,z8k]
 have e5:z1m n a true=some 5/\z2r n a true=some 5:=by
  unfold z1m z2r
  exact ⟨z80 _ _,z80 _ _⟩
 rw [e5.1,e5.2]
 by_cases h1:((a.fStates.length:Nat):Int)<1
 ·exact ⟨5,by simp [h1],by simp [h1],fun h=>by cases h⟩
 by_cases h2:256<((a.fStates.length:Nat):Int)
 ·exact ⟨5,by simp [h1,h2],by simp [h1,h2],fun h=>by cases h⟩
 simp only [h1,h2,if_false]
 by_cases h3:2048<((a.fEdges.length:Nat):Int)
 ·exact ⟨5,by simp [h3,e5.1],by simp [h3,e5.2],fun h=>by cases h⟩
 simp only [h3,decide_false]
 unfold z1m z2r
 simp only [z8k]
 have hst:1<=a.fStates.length/\a.fStates.length<=256:=by omega
 obtain ⟨r,r1,r2,r3⟩:=p_edges_l2 n hn a hs hv hst hw n 0 0 (by omega) (by omega) (by simp)
 have:=p_states_l1 n hn a hs hv hw _ _ (AOk a) ⟨r,r1,r2,fun h=>⟨hv,hst,r3 h⟩⟩ n 0 (by omega) (by omega)
 simpa only [Int.natCast_zero] using this
end Go.Proofs.YtjpknpjjcddnnaaGreat
namespace Go.Proofs.YtjpknpjjcddnnaaGreat
open Go.RowKit
theorem awake_ok:z88 2000000000=some true:=by kernel_rfl
end Go.Proofs.YtjpknpjjcddnnaaGreat
