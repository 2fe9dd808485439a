/- Layer 7, plainly. -/
import Derived.Test.YtidhlpjgifoneaaGreatK27
set_option linter.unusedVariables false
set_option linter.unusedSimpArgs false
namespace Go.Proofs.YtidhlpjgifoneaaGreat
open Go.RowKit List
def wrP (k:Int)(v:Va):Int:=if vcP v=0 then (if suP k v=true then 0 else 9) else vcP v
theorem y95 (n:Nat)(k:Int)(hk:1<=k/\k<=5)(v:Va):zba n k v=some (wrP k v):=by
 unfold zba zcm wrP suP
 simp only [yqh,z04,z0d,z0y,z24,z1d,z4t]
 by_cases h:vcP v=0
 ·rw [if_pos h,if_pos h]
  by_cases h0:v.fKind=0
  ·simp [h0,z5c,z04]
  ·by_cases h1:k=1
   ·simp [h0,h1,z5c,z04]
   ·by_cases h2:k=2
    ·simp [h0,h1,h2,z5c,z04]
    ·by_cases h3:k=3
     ·simp [h0,h1,h2,h3,z5c,z04]
     ·have:k=4\/k=5:=by omega
      rcases this with rfl|rfl<;>simp [h0,z5c,z04]
 ·rw [if_neg h,if_neg h]
theorem ybh (n:Nat)(k:Int)(hk:1<=k/\k<=5)(v:Va):z9p n k v=some (wrP k v):=by
 unfold z9p wrP
 simp only [ykw,y0d,z04,z0d,z0y]
 have h0:decide (k=0)=false:=by rw [decide_eq_false];omega
 simp only [h0,Bool.false_or]
 by_cases h:vcP v=0
 ·rw [if_pos h,if_pos h]
  cases suP k v<;>simp [z5c]
 ·rw [if_neg h,if_neg h]
def yn7 (k:Int)(a b:Va):Va:=if k=1 then ⟨0,IntKind.wrap .i64 (a.fNum+b.fNum),be⟩ else if k=2 then ⟨0,min a.fNum b.fNum,be⟩ else if k=3 then ⟨0,max a.fNum b.fNum,be⟩ else if k=4 then a else b
theorem yo0 (n:Nat)(k:Int)(hk:1<=k/\k<=5)(a b:Va):za8 n k a b=some (yn7 k a b):=by
 unfold za8 yn7
 simp only [z0d]
 grind
theorem yr2 (n:Nat)(k:Int)(hk:1<=k/\k<=5)(a b:Va):zdh n k a b=some (yn7 k a b):=by
 unfold zdh yn7
 simp only [zny,z8e,z04,zed,zec,zeb,zea,ze9,ze8]
 grind
def yf7 (k:Int)(i:Nat)(V:Va):Prop:=if i=0 then V=va0 else if k=1 then V.fKind=0/\V.fText=be/\-((i:Int)*1099511627776)<=V.fNum/\V.fNum<=(i:Int)*1099511627776 else vcP V=0/\suP k V=true
theorem yf7.check (n:Nat){k:Int}(hk:1<=k/\k<=5){i:Nat}(hi:i<=4096){V:Va}(h:yf7 k i V):z9r n ⟨k,(i:Int),V⟩=some 0/\zf8 n ⟨k,(i:Int),V⟩=some 0:=by
 have w1:IntKind.wrap .i64 ((i:Int)*1099511627776)=(i:Int)*1099511627776:=zee _ (by omega)
 have w2:IntKind.wrap .i64 (0-(i:Int)*1099511627776)=-((i:Int)*1099511627776):=by rw [zee _ (by omega)];omega
 have k0:¬k=0:=by omega
 have ka:(0:Int)<=k:=by omega
 have c0:¬(i:Int)<0:=by omega
 have c1:¬4096<(i:Int):=by omega
 unfold z9r zf8 zah zcn
 simp only [z04,z0d,z0y,z24,z1d,z3r,z6n,z57,z56,z2d,z54,z8n,zza,yqh,ykw,w1,w2,ka,hk.2,if_true,decide_true,z4u,c0,c1,if_false,decide_false,z5d,k0,zje]
 unfold yf7 at h
 by_cases hi0:i=0
 ·rw [if_pos hi0] at h
  subst hi0
  subst h
  simp [z5c]
 ·rw [if_neg hi0] at h
  have hi1:¬(i:Int)=0:=by omega
  simp only [hi1,if_false,decide_false,z5d]
  by_cases k1:k=1
  ·grind
  ·rw [if_neg k1] at h
   obtain ⟨h1,h2⟩:=h
   simp only [k1,if_false,h1,y0d,h2,z04,if_true,Bool.or_true]
   refine ⟨by simp [z5c],?_⟩
   have:=y95 n k hk V
   unfold zba wrP at this
   rw [yqh,z04] at this
   simp only [h1,h2,if_true,decide_true,Bool.not_true,z5d] at this
   cases hs:zcm n k V with
   |none=>rw [hs] at this;unfold bnd at this;cases this
   |some b =>
    rw [hs,z04] at this
    cases b with
    |true=>simp [z04,z5c]
    |false=>simp [z5c] at this
def zs3 (k:Int)(i:Nat)(V x:Va):Va:=if i=0 then x else yn7 k V x
theorem yf7.step {k:Int}(hk:1<=k/\k<=5){i:Nat}(hi:i<=4096){V x:Va}(h:yf7 k i V)(hx:wrP k x=0):yf7 k (i+1) (zs3 k i V x):=by
 have hv:vcP x=0/\suP k x=true:=by
  unfold wrP at hx
  by_cases h1:vcP x=0
  ·simp_all
  ·omega
 have hn:x.fKind=0->x.fText=be/\-1099511627776<=x.fNum/\x.fNum<=1099511627776:=fun h0=>by
  have:=hv.1
  unfold vcP at this
  grind
 have hs:k=1\/k=2\/k=3->x.fKind=0:=fun h=>by
  have:=hv.2
  simp only [suP,Bool.or_eq_true,decide_eq_true_eq] at this
  omega
 have nv:∀ q:Int,-1099511627776<=q->q<=1099511627776->vcP ⟨0,q,be⟩=0:=fun q h1 h2=>by
  unfold vcP
  grind
 unfold yf7 at h ⊢
 rw [if_neg (by omega)]
 unfold zs3
 by_cases hi0:i=0
 ·simp_all
 ·rw [if_neg hi0] at h
  rw [if_neg hi0]
  by_cases k1:k=1
  ·rw [if_pos k1] at h ⊢
   obtain ⟨h1,h2,h3,h4⟩:=h
   obtain ⟨a,b,c⟩:=hn (hs (Or.inl k1))
   unfold yn7
   rw [if_pos k1]
   rw [zee _ (by omega)]
   grind
  ·rw [if_neg k1] at h ⊢
   obtain ⟨h1,h2⟩:=h
   have hV:V.fKind=0->-1099511627776<=V.fNum/\V.fNum<=1099511627776:=fun h0=>by
    unfold vcP at h1
    omega
   have hVs:k=2\/k=3->V.fKind=0:=fun h=>by
    simp only [suP,Bool.or_eq_true,decide_eq_true_eq] at h2
    omega
   unfold yn7
   rw [if_neg k1]
   by_cases k2:k=2
   ·rw [if_pos k2]
    obtain ⟨a,b,c⟩:=hn (hs (Or.inr (Or.inl k2)))
    obtain ⟨d,e⟩:=hV (hVs (Or.inl k2))
    exact ⟨nv _ (by omega) (by omega),by simp [suP]⟩
   ·rw [if_neg k2]
    by_cases k3:k=3
    ·rw [if_pos k3]
     obtain ⟨a,b,c⟩:=hn (hs (Or.inr (Or.inr k3)))
     obtain ⟨d,e⟩:=hV (hVs (Or.inr k3))
     exact ⟨nv _ (by omega) (by omega),by simp [suP]⟩
    grind
theorem yqm (n:Nat){k:Int}(hk:1<=k/\k<=5){i:Nat}(hi:i<4096){V:Va}(h:yf7 k i V)(x:Va):zd0 n ⟨k,(i:Int),V⟩ x=some (if wrP k x=0 then (⟨k,((i+1:Nat):Int),zs3 k i V x⟩,0) else (⟨0,0,⟨0,0,be⟩⟩,wrP k x)):=by
 unfold zd0
 rw [(h.check n hk (by omega)).1,z04]
 simp only [ybh n k hk,z04,z0d,z0y,yo0 n k hk,z24,z1d,z4o,if_true]
 rw [z1s i (by omega)]
 by_cases hx:wrP k x=0
 ·rw [if_pos hx,if_pos hx,if_neg (by omega),if_neg (by omega)]
  unfold zs3
  by_cases h0:i=0
  all_goals simp_all
 ·rw [if_neg hx,if_neg hx]
def bad (k:Int):List Va->Option Int
 |[]=>none
 |x::l=>if wrP k x=0 then bad k l else some (wrP k x)
def fV (k:Int):Nat->Va->List Va->Va
 |_,V,[]=>V
 |i,V,x::l=>fV k (i+1) (zs3 k i V x) l
theorem ybk (n:Nat){k:Int}(hk:1<=k/\k<=5)(init:Va)(l:List Va)(hl:l.length<=4096)(K:Int->Int->Int->Int->ByteArray->Option (Va×Int)):∀ (m i:Nat) (V:Va),i<=l.length->l.length<m+i->yf7 k i V ->
  z9q n init l K m ((i:Int),k,(i:Int),V.fKind,V.fNum,V.fText)=(match bad k (l.drop i) with|some e=>some (va0,e)|none=>K k (l.length:Int) (fV k i V (l.drop i)).fKind (fV k i V (l.drop i)).fNum (fV k i V (l.drop i)).fText)/\(bad k (l.drop i)=none->yf7 k l.length (fV k i V (l.drop i)))
 |0,i,V,h1,h2,_=>by omega
 |m+1,i,V,h1,h2,h3=>by
  unfold z9q
  simp only [length_map,z0d,z0y]
  by_cases h:i<l.length
  ·rw [if_pos (by omega),z0k h]
   have ha:=yqm n hk (i:=i) (by omega) h3 l[i]
   have hV:V=⟨V.fKind,V.fNum,V.fText⟩:=rfl
   rw [<-hV,ha,z04,z0e l i h]
   simp only [bad,fV]
   by_cases hx:wrP k l[i]=0
   ·simp only [hx,if_true]
    rw [z1s i (by omega)]
    exact ybk n hk init l hl K m (i+1) _ (by omega) (by omega) (h3.step hk (by omega) hx)
   grind
  ·rw [if_neg (by omega),drop_eq_nil_of_le (by omega)]
   have:i=l.length:=by omega
   subst this
   exact ⟨rfl,fun _=>h3⟩
theorem ygs (n:Nat){k:Int}(hk:1<=k/\k<=5)(init:Va)(l:List Va)(hl:l.length<=4096)(K:Option (Va×Int)):∀ (m i:Nat),i<=l.length->l.length<m+i->zco n init l k K m (i:Int)=(match bad k (l.drop i) with|some e=>some (va0,e)|none=>K)
 |0,i,h1,h2=>by omega
 |m+1,i,h1,h2=>by
  unfold zco
  simp only [length_map,z0d,z0y]
  by_cases h:i<l.length
  ·rw [if_pos (by omega),z0k h,y95 n k hk,z04,z0e l i h]
   simp only [bad]
   by_cases hx:wrP k l[i]=0
   ·simp only [hx,if_true]
    rw [z1s i (by omega)]
    exact ygs n hk init l hl K m (i+1) (by omega) (by omega)
   ·simp only [hx,if_false]
  ·rw [if_neg (by omega),drop_eq_nil_of_le (by omega)]
   rfl
theorem zst (n:Nat){k:Int}(hk:1<=k/\k<=5)(l:List Va)(hl:l.length<=4096)(K:Int->Int->Int->Int->ByteArray->Option z0o):∀ (m i:Nat) (V:Va),i<=l.length->l.length<m+i ->
  za3 n k l K m ((i:Int),k,(i:Int),V.fKind,V.fNum,V.fText)=K k (l.length:Int) (fV k i V (l.drop i)).fKind (fV k i V (l.drop i)).fNum (fV k i V (l.drop i)).fText
 |0,i,V,h1,h2=>by omega
 |m+1,i,V,h1,h2=>by
  unfold za3
  simp only [length_map,z0d]
  by_cases h:i<l.length
  ·rw [if_pos (by omega),z0k h,z0e l i h]
   unfold zh6 zg3 zg4
   have k0:¬k=0:=by omega
   have hV:V=⟨V.fKind,V.fNum,V.fText⟩:=rfl
   simp only [z0d,k0,if_false,z04]
   rw [<-hV,yr2 n k hk]
   simp only [fV]
   by_cases h0:i=0
   ·have:((i:Nat):Int)=0:=by omega
    rw [if_pos this,z04,z1s i (by omega)]
    have e:=zst n hk l hl K m (i+1) (zs3 k i V l[i]) (by omega) (by omega)
    have e2:zs3 k i V l[i]=l[i]:=by unfold zs3;rw [if_pos h0]
    rw [e2] at e ⊢
    have e3:((i+1:Nat):Int)=1:=by omega
    rw [e3] at e ⊢
    rw [z04]
    exact e
   ·rw [if_neg (by omega),if_neg (by omega),z04,z04,z1s i (by omega)]
    have e:=zst n hk l hl K m (i+1) (zs3 k i V l[i]) (by omega) (by omega)
    have e2:zs3 k i V l[i]=yn7 k V l[i]:=by unfold zs3;rw [if_neg h0]
    rw [e2] at e ⊢
    rw [z04]
    exact e
  ·rw [if_neg (by omega),drop_eq_nil_of_le (by omega)]
   have:i=l.length:=by omega
   subst this
   rfl
theorem yky (n:Nat){k:Int}(hk:1<=k/\k<=5){i:Nat}(hi:i<=4096){V:Va}(h:yf7 k i V)(init:Va):∃ r,z8z n ⟨k,(i:Int),V⟩ init=some r/\zbp n ⟨k,(i:Int),V⟩ init=some r:=by
 obtain ⟨h1,h2⟩:=h.check n hk hi
 unfold z8z zbp
 rw [h1,h2]
 simp only [z04,ybh n k hk,y95 n k hk,z0d,z0y,z24,z1d,z48,z83,if_true,z5c]
 repeat' split
 all_goals exact ⟨_,rfl,rfl⟩
theorem p_of (n:Nat)(hn:5000<n){k:Int}(hk:1<=k/\k<=5)(l:List Va)(init:Va):∃ r,zbo n k l init=some r/\zfw n k l init=some r:=by
 unfold zbo zfw zah zcn
 have ka:(0:Int)<=k:=by omega
 simp only [z04,z0d,z0y,z24,z1d,z3r,z6n,ka,hk.2,if_true,length_map,decide_true,z4u]
 by_cases h:4096<l.length
 ·rw [if_pos (by omega),if_pos (by omega)]
  exact ⟨_,rfl,rfl⟩
 ·rw [if_neg (by omega),if_neg (by omega)]
  have e1:=ybk n hk init l (by omega) (fun y0 y1 y2 y3 y4=>bnd (z8z n (⟨y0,y1,⟨y2,y3,y4⟩⟩:z0o) init) fun x47=>some (x47.1,x47.2)) n 0 va0 (by omega) (by omega) (by simp [yf7])
  have e2:=ygs n hk init l (by omega) (bnd (ze7 n (⟨k,0,⟨0,0,ByteArray.empty⟩⟩:z0o) l k) fun x42=>bnd (zbp n x42 init) fun x43=>some (x43.1,x43.2)) n 0 (by omega) (by omega)
  simp only [Int.natCast_zero,drop_zero] at e1 e2
  rw [e1.1,e2]
  cases hb:bad k l with
  |some e=>exact ⟨_,rfl,rfl⟩
  |none =>
   have hi:=e1.2 hb
   have e3:=zst n hk l (by omega) (fun y0 y1 y2 y3 y4=>some (⟨y0,y1,⟨y2,y3,y4⟩⟩:z0o)) n 0 va0 (by omega) (by omega)
   simp only [Int.natCast_zero,drop_zero] at e3
   unfold ze7
   rw [e3]
   simp only [z04]
   obtain ⟨r,r1,r2⟩:=yky n hk (i:=l.length) (by omega) hi init
   rw [r1,r2]
   simp only [z04]
   exact ⟨_,rfl,rfl⟩
def evs (vs:List (List Ev))(v:Int):List Ev:=if v<0 then [] else if (vs.length:Int)<=v then [] else vs.getD v.toNat []
theorem zjs {α β:Type}{l:List α}{i:Int}(d:α)(k:α->Option β)(h0:0<=i)(h1:i<(l.length:Int)):idx l i k=k (l.getD i.toNat d):=by
 obtain ⟨m,rfl⟩:∃ m:Nat,i=m:=⟨i.toNat,by omega⟩
 have hm:m<l.length:=by omega
 rw [z0k hm]
 simp_all
theorem zso (n:Nat)(vs:List (List Ev))(v:Int):z6z n ⟨vs⟩ v=some (evs vs v):=by
 unfold z6z evs
 simp only [z24,z1d,z47,length_map,z0d,z4u]
 by_cases h:v<0
 ·rw [if_pos h,if_pos h]
 ·rw [if_neg h,if_neg h]
  by_cases h2:(vs.length:Int)<=v
  ·rw [if_pos h2,if_pos h2]
  ·rw [if_neg h2,if_neg h2,zjs [] _ (by omega) (by omega)]
theorem y0f (n:Nat)(vs:List (List Ev))(own:Int)(ev:Ev)(v:Int):z7t n ⟨vs⟩ own ev v=some (evs vs v):=by
 unfold z7t evs
 simp only [z24,z1d,z38,length_map,z0d,z4u]
 by_cases h:v<0
 ·rw [if_pos h,if_pos h]
 ·rw [if_neg h,if_neg h]
  by_cases h2:(vs.length:Int)<=v
  ·rw [if_pos h2,if_pos h2]
  ·rw [if_neg h2,if_neg h2,zjs [] _ (by omega) (by omega)]
theorem ygx (n:Nat)(ev:Ev)(f:Int)(hf:0<=f):zgj n ev f=some (if (ev.fValues.length:Int)<=f then (va0,6) else (ev.fValues.getD f.toNat va0,0)):=by
 unfold zgj
 simp only [length_map,z0d]
 by_cases h:(ev.fValues.length:Int)<=f
 ·rw [if_pos h,if_pos h]
 ·rw [if_neg h,if_neg h,zjs va0 _ hf (by omega)]
theorem zxw (n:Nat)(e:Exn)(hf:0<=e.fField)(es:List Ev)(hl:es.length<=1000000)(K K':List Va->Option (Va×Int))(hK:∀ l,∃ r,K l=some r/\K' l=some r):∀ (m i:Nat) (acc:List Va),i<=es.length->es.length<m+i->acc.length=i ->
  ∃ r,z89 n e es K m ((i:Int),acc)=some r/\z5s n e es K' m ((i:Int),acc)=some r
 |0,i,acc,h1,h2,_=>by omega
 |m+1,i,acc,h1,h2,h3=>by
  unfold z89 z5s
  simp only [length_map,z0d,z0y]
  by_cases h:i<es.length
  ·rw [if_pos (by omega),if_pos (by omega)]
   simp only [z0k h]
   rw [ygx n _ _ hf,z04]
   by_cases hv:(es[i].fValues.length:Int)<=e.fField
   ·simp_all
   ·rw [if_neg hv,if_neg hv,zjs va0 _ hf (by omega)]
    simp only [if_true]
    rw [zbr (by simp;omega) (by omega),zbr (by simp;omega) (by omega),z1s i (by omega)]
    exact zxw n e hf es hl K K' hK m (i+1) _ (by omega) (by omega) (by simp;omega)
  ·rw [if_neg (by omega),if_neg (by omega)]
   exact hK acc
theorem yc9 {e:Exn}(h:ndP e=0):0<=arP e.fOp/\(e.fArgs.length:Int)=arP e.fOp/\(usF e.fOp=true->0<=e.fField)/\(e.fOp=4->1<=e.fKind/\e.fKind<=5):=by
 unfold ndP at h
 grind
inductive Occ (i:Nat):Exn->Prop
 |here (e:Exn) (h:usV e.fOp=true) (hv:e.fVar=(i:Int)):Occ i e
 |sub (e y:Exn) (hy:z0l y∈e.fArgs) (h:Occ i y):Occ i e
theorem yr8 {e:Exn}(h:ndP e=0)(hu:usV e.fOp=true):0<=e.fVar/\e.fVar<16:=by
 unfold ndP at h
 grind
theorem yqo (n:Nat)(hn:2000000<n)(e:Exn)(hnd:ndP e=0)(h0:e.fArgs.length=0)(a b:List (List Ev))(hoc:∀ i:Nat,Occ i e->evs a (i:Int)=evs b (i:Int))(hb:∀ v,(evs a v).length<=1000000)(own:Int)(ev:Ev) :
  ∃ r,zag n e ⟨a⟩ own ev=some r/\z93 n ⟨b⟩ own ev e=some r:=by
 obtain ⟨f1,f2,f3,f4⟩:=yc9 hnd
 by_cases o0:e.fOp=0
 ·unfold zag z93
  simp only [zso,y0f,z04,z0d,o0,if_true]
  exact ⟨_,rfl,rfl⟩
 have hu:usV e.fOp=true:=by
  unfold arP at f1 f2
  by_cases q1:e.fOp<0
  ·rw [if_pos q1] at f1;omega
  by_cases q2:12<e.fOp
  ·omega
  rw [if_neg q1,if_neg q2] at f2
  by_cases q3:e.fOp<5
  ·unfold usV
   grind
  ·omega
 have hab:evs a e.fVar=evs b e.fVar:=by
  have hv:=yr8 hnd hu
  have:=hoc e.fVar.toNat (.here e hu (by omega))
  rwa [show ((e.fVar.toNat:Nat):Int)=e.fVar by omega] at this
 unfold zag z93
 simp only [zso,y0f,<-hab,z04,z0d,z0y,length_map]
 rw [if_neg o0,if_neg o0]
 by_cases o3:e.fOp=3
 ·simp_all
 rw [if_neg o3,if_neg o3]
 by_cases o4:e.fOp=4
 ·rw [if_pos o4,if_pos o4]
  unfold zcd
  rw [y0f,<-hab,z04]
  have hf:=f3 (by rw [o4];decide)
  have hk:=f4 o4
  obtain ⟨r,r1,r2⟩:=zxw n e hf (evs a e.fVar) (hb _) (fun y=>bnd (zbo n e.fKind y e.fValue) fun x44=>some (x44.1,x44.2)) (fun y=>bnd (zfw n e.fKind y e.fValue) fun x43=>some (x43.1,x43.2)) (fun l=>by
   obtain ⟨r,r1,r2⟩:=p_of n (by omega) hk l e.fValue
   exact ⟨r,by rw [r1,z04],by rw [r2,z04]⟩) n 0 [] (by omega) (by have:=hb e.fVar;omega) rfl
  simp only [Int.natCast_zero] at r1 r2
  rw [r1,r2]
  exact ⟨r,rfl,by rw [z04]⟩
 rw [if_neg o4,if_neg o4]
 have hop:e.fOp=1\/e.fOp=2:=by
  unfold arP at f1 f2
  by_cases q1:e.fOp<0
  ·rw [if_pos q1] at f1;omega
  by_cases q2:12<e.fOp
  ·omega
  rw [if_neg q1,if_neg q2] at f2
  by_cases q3:e.fOp<5
  ·omega
  ·omega
 simp only [z24,z1d,z4c,z4b]
 unfold zet
 simp only [zso,z04,z0d,z0y,length_map]
 have tail:∀ x:Ev,∃ r,(if e.fOp=2 then some ((⟨0,x.fTime,be⟩:Va),(0:Int)) else if (x.fValues.length:Int)<=e.fField then some (va0,6) else idx x.fValues e.fField fun x50=>bnd (z3s n x50) fun x51=>if x51=0 then (idx x.fValues e.fField fun x52=>some (x52,0)) else some (va0,x51))=some r /\
   (if e.fOp=2 then some ((⟨0,x.fTime,be⟩:Va),(0:Int)) else bnd (zgj n (⟨x.fSource,x.fSeq,x.fType,x.fTime,x.fValues⟩:z03) e.fField) fun x9=>if x9.2=0 then (bnd (zc8 n x9.1) fun x12=>if x12=0 then some (x9.1,0) else some (va0,x12)) else if x9.2=0 then some (x9.1,0) else some (va0,x9.2))=some r:=fun x=>by
  by_cases o2:e.fOp=2
  ·simp_all
  rw [if_neg o2,if_neg o2]
  have o1:e.fOp=1:=by omega
  have hf:=f3 (by rw [o1];decide)
  rw [ygx n _ _ hf,z04]
  by_cases hv:(x.fValues.length:Int)<=e.fField
  ·simp only [hv,if_true]
   exact ⟨_,rfl,rfl⟩
  ·simp only [hv,if_false]
   rw [zjs va0 _ hf (by omega),zjs va0 _ hf (by omega),ykw,yqh,z04]
   simp only [if_true,z04]
   split
   all_goals simp_all
 by_cases ho:e.fVar=own
 ·rw [if_pos ho,if_pos ho,z04]
  simp only [z4u]
  exact tail ev
 ·rw [if_neg ho,if_neg ho]
  by_cases he:(evs a e.fVar).length=0
  ·rw [if_pos (by omega),if_pos (by omega),z04]
   simp only [z5d]
   exact ⟨_,rfl,rfl⟩
  ·rw [if_neg (by omega),if_neg (by omega),zee _ (by have:=hb e.fVar;omega),zjs ev _ (by omega) (by omega),zjs ev _ (by omega) (by omega),z04]
   simp only [z4u]
   exact tail _
theorem ydy (n:Nat)(op:Int)(h:5<=op/\op<=12):z9o n op=some (if op<9 then 0 else if op=9 then -1 else 1):=by
 have:op=5\/op=6\/op=7\/op=8\/op=9\/op=10\/op=11\/op=12:=by omega
 unfold z9o
 simp only [z24,z1d,z1p,z28,z0d]
 grind
theorem zon (n:Nat)(op:Int)(h:5<=op/\op<=12)(ks:List Int)(hl:ks.length<=4000000):∀ (m i:Nat),i<=ks.length->ks.length<m+i->∃ r,z1b n ks op (some 0) m (i:Int)=some r/\z5b n ks op (some 0) m (i:Int)=some r/\(r=0\/r=9)
 |0,i,h1,h2=>by omega
 |m+1,i,h1,h2=>by
  unfold z1b z5b
  simp only [length_map,z0d,z0y,ydy n op h,z04,z24,z1d,z1i,z79,z8p]
  by_cases hi:i<ks.length
  ·have hlt:((i:Nat):Int)<((ks.length:Nat):Int):=by omega
   simp only [hlt,if_true]
   obtain ⟨r,r1,r2,r3⟩:=zon n op h ks hl m (i+1) (by omega) (by omega)
   rw [z1s i (by omega),r1,r2]
   have hz:∀ (K:Int->Option Int),idx ks 0 K=K (ks.headD 0):=fun K=>by
    have:=z0k (l:=ks) (i:=0) (by omega) K
    simp only [Int.natCast_zero] at this
    rw [this]
    congr 1
    cases ks with
    |nil=>simp at hi
    |cons x q=>rfl
   have hx:∀ (K:Int->Option Int),idx ks (i:Int) K=K ks[i]:=fun K=>z0k hi K
   simp only [hz,hx]
   generalize ks[i]=k
   generalize ks.headD 0=k0
   have:op=5\/op=6\/op=7\/op=8\/op=9\/op=10\/op=11\/op=12:=by omega
   clear r1 r2 hz hx h
   rcases this with rfl|rfl|rfl|rfl|rfl|rfl|rfl|rfl
   all_goals
    simp [z5c]
    first
    |(by_cases q:k=0<;>simp [q,r3])
    |(by_cases q:k=1<;>simp [q,r3])
    |(by_cases q:k=k0<;>simp [q,r3])
  ·have hlt:¬((i:Nat):Int)<((ks.length:Nat):Int):=by omega
   simp only [hlt,if_false]
   exact ⟨0,rfl,rfl,Or.inl rfl⟩
theorem ygw (n:Nat)(b:Bool):zad n b=some (if b=true then ⟨1,1,be⟩ else ⟨1,0,be⟩):=by
 unfold zad zjw
 cases b<;>simp [z5c,z04]
theorem y96 (n:Nat)(b:Bool):z1j n b=some (if b=true then ⟨1,1,be⟩ else ⟨1,0,be⟩):=by
 unfold z1j
 cases b<;>simp [z5c]
section
variable {α β:Type}
theorem y0j {len:Nat}(h:0<len)(k:Nat->Option β):nat 0 len k=k 0:=by have:=zfe (i:=0) h k;simpa using this
theorem yca {len:Nat}(h:1<len)(k:Nat->Option β):nat 1 len k=k 1:=by have:=zfe (i:=1) h k;simpa using this
theorem yos {x y:α}{l:List α}(k:α->Option β):idx (x::y::l) 1 k=k y:=by have:=z0k (l:=x::y::l) (i:=1) (by simp) k;simpa using this
end
theorem w21:IntKind.wrap .i64 (((2:Nat):Int)-1)=1:=by decide
theorem w11:IntKind.wrap .i64 (((1:Nat):Int)-1)=0:=by decide
theorem yl9 (n:Nat)(op:Int)(h:5<=op/\op<=11)(x y:Va):∃ v,z7x n op [x,y]=some v /\
  (cnd (decide (op=9))
    (nat 0 (List.map z09 [x,y]).length fun x45=>elt [x,y] x45 fun x46=>nat 1 (List.map z09 [x,y]).length fun x47=>elt [x,y] x47 fun x48 =>
      bnd (zad n (decide (x46.fKind=x48.fKind) && (decide (x46.fNum=x48.fNum) && ((x46.fText.toList == x48.fText.toList) && true)))) fun x49=>some (x49,(0:Int)))
  <| zhq op 5 (bnd (zdd n x.fNum y.fNum) fun x54=>some (x54,0))
  <| zhq op 6 (bnd (zdc n x.fNum y.fNum) fun x54=>some (x54,0))
  <| zhq op 7 (bnd (zdb n x.fNum y.fNum) fun x54=>some (x54,0))
  <| zhq op 8 (bnd (zda n x.fNum y.fNum) fun x54=>some (x54,0))
  <| zhq op 10 (bnd (zd9 n x.fNum y.fNum) fun x54=>some (x54,0))
  <| zhq op 11 (bnd (zd8 n x.fNum y.fNum) fun x54=>some (x54,0))
  <| zhq op 12 (bnd (z9j n x.fNum y.fNum) fun x54=>some (x54,0))
  <| none)=some (v,0):=by
 have:op=5\/op=6\/op=7\/op=8\/op=9\/op=10\/op=11:=by omega
 have l2:(List.map z09 [x,y]).length=2:=rfl
 have n0:∀ k:Nat->Option (Va×Int),nat 0 2 k=k 0:=fun k=>y0j (by omega) k
 have n1:∀ k:Nat->Option (Va×Int),nat 1 2 k=k 1:=fun k=>yca (by omega) k
 have e0:∀ k:Va->Option (Va×Int),elt [x,y] 0 k=k x:=fun k=>zik (by simp) k
 have e1:∀ k:Va->Option (Va×Int),elt [x,y] 1 k=k y:=fun k=>zik (by simp) k
 unfold z7x zdd zdc zdb zda zd9 zd8 z9j zde
 simp only [l2,n0,n1,e0,e1,zot,yos,z0d,zny,ygw,y96,z04,z24,z1d,z73,z72,z4z,z4y]
 rcases this with rfl|rfl|rfl|rfl|rfl|rfl|rfl
 ·exact ⟨_,rfl,rfl⟩
 ·exact ⟨_,rfl,rfl⟩
 ·exact ⟨_,rfl,rfl⟩
 ·exact ⟨_,rfl,rfl⟩
 ·exact ⟨_,rfl,rfl⟩
 ·by_cases q:x.fNum=1
  ·simp [q,z04]
  ·simp [q,z04]
 ·by_cases q:x.fNum=1
  ·simp [q,z04]
  ·simp [q,z04]
theorem yla (n:Nat)(x:Va):∃ v,z7x n 12 [x]=some v/\z9j n x.fNum x.fNum=some v:=by
 unfold z7x z9j
 simp only [zot,z0d,ygw,y96,z04]
 exact ⟨_,rfl,rfl⟩
theorem yk7.pos {s:Nat}{e:Exn}(h:yk7 s e):1<=s:=by cases h;omega
theorem y5a (n:Nat)(l:List (Nat×Exn))(e:Exn)(ha:e.fArgs=l.map (fun p=>z0l p.2))(hl:l.length<=4000000)(a b:List (List Ev))(own:Int)(ev:Ev)
  (ih:∀ p∈l,∃ r,z4s n p.2 ⟨a⟩ own ev=some r/\z3b n ⟨b⟩ own ev p.2=some r) (K K':List Va->List Int->Option (Va×Int)) (hK:∀ vs,vs.length=l.length->∃ r,K vs (vs.map (·.fKind))=some r/\K' vs (vs.map (·.fKind))=some r) :
  ∀ (m k:Nat) (vs:List Va),k<=l.length->l.length<m+k->vs.length=k->∃ r,z8a n (z4s n) ev own ⟨a⟩ e K m ((k:Int),vs,vs.map (·.fKind))=some r/\z6k n (z3b n) e ev own ⟨b⟩ K' m ((k:Int),vs,vs.map (·.fKind))=some r
 |0,k,vs,h1,h2,_=>by omega
 |m+1,k,vs,h1,h2,h3=>by
  unfold z8a z6k
  simp only [ha,length_map,z0d,z0y]
  by_cases h:k<l.length
  ·have hlt:((k:Nat):Int)<((l.length:Nat):Int):=by omega
   simp only [hlt,if_true]
   rw [zkq h,zkq h]
   obtain ⟨⟨v,x⟩,r1,r2⟩:=ih l[k] (getElem_mem h)
   rw [r1,r2,z04,z04]
   by_cases hx:x=0
   ·simp only [hx,if_true]
    rw [zbr (by simp;omega) (by omega),zbr (by simp;omega) (by omega),zbr (by simp;omega) (by omega),zbr (by simp;omega) (by omega),z1s k (by omega)]
    have:=y5a n l e ha hl a b own ev ih K K' hK m (k+1) (vs++[v]) (by omega) (by omega) (by simp;omega)
    simpa using this
   simp_all
  grind
theorem yqu (a b:List (List Ev))(hb:∀ v,(evs a v).length<=1000000)(own:Int)(ev:Ev):∀ (s:Nat) (e:Exn),yk7 s e->(∀ i:Nat,Occ i e->evs a (i:Int)=evs b (i:Int))->s<=4000000->∀ n,s+5000000<n->∃ r,z4s n e ⟨a⟩ own ev=some r/\z3b n ⟨b⟩ own ev e=some r:=by
 intro s
 induction s using Nat.strongRecOn with
 |ind s IH =>
  intro e ht hab hs n hn
  cases ht with
  |mk l e hnd h ha =>
   obtain ⟨n',rfl⟩:∃ n',n=n' + 1:=⟨n-1,by omega⟩
   have hl:l.length<=(l.map (·.1)).sum:=zs1 (l:=l) (fun p hp=>(h p hp).pos)
   obtain ⟨f1,f2,f3,f4⟩:=yc9 hnd
   simp only [z4s,z3b,length_map,z0d,z0y]
   by_cases h0:e.fArgs.length=0
   ·have:((e.fArgs.length:Nat):Int)=0:=by omega
    simp only [this,if_true]
    obtain ⟨r,r1,r2⟩:=yqo n' (by omega) e hnd h0 a b hab hb own ev
    rw [r1,r2,z04]
    exact ⟨_,rfl,rfl⟩
   ·have:¬((e.fArgs.length:Nat):Int)=0:=by omega
    simp only [this,if_false]
    have hll:e.fArgs.length=l.length:=by rw [ha,length_map]
    have hop:5<=e.fOp/\e.fOp<=12/\(e.fOp=12->l.length=1)/\(e.fOp≠12->l.length=2):=by
     unfold arP at f1 f2
     by_cases q1:e.fOp<0
     ·rw [if_pos q1] at f1;omega
     by_cases q2:12<e.fOp
     ·omega
     rw [if_neg q1,if_neg q2] at f2
     by_cases q3:e.fOp<5
     ·rw [if_pos q3] at f2;omega
     ·omega
    refine y5a n' l e ha (by omega) a b own ev (fun p hp=>by
     have:=znr hp
     exact IH p.1 (by omega) p.2 (h p hp) (fun i hi=>hab i (.sub e p.2 (by grind) hi)) (by omega) n' (by omega)) _ _ (fun vs hvs=>?_) n' 0 [] (by omega) (by omega) rfl
    obtain ⟨r,r1,r2,r3⟩:=zon n' e.fOp ⟨hop.1,hop.2.1⟩ (vs.map (·.fKind)) (by rw [length_map];omega) n' 0 (by omega) (by rw [length_map];omega)
    simp only [Int.natCast_zero] at r1 r2
    unfold zbn zhn
    rw [r1,r2,z04,z04]
    by_cases hr:r=0
    ·simp only [hr,if_true]
     by_cases o12:e.fOp=12
     ·have hv1:vs.length=1:=by have:=hop.2.2.1 o12;omega
      match vs,hv1 with
      |[x],_ =>
       obtain ⟨v,v1,v2⟩:=yla n' x
       rw [o12,v1,z04]
       have n0:∀ k:Nat->Option (Va×Int),nat 0 1 k=k 0:=fun k=>y0j (by omega) k
       have e0:∀ k:Va->Option (Va×Int),elt [x] 0 k=k x:=fun k=>zik (by simp) k
       have l0:∀ z:Option (Va×Int),ltx 0 1 z=z:=fun z=>y5n (by omega) z
       simp only [zny,length_cons,length_nil,Nat.zero_add,w11,n0,e0,l0,v2,z04]
       exact ⟨_,rfl,rfl⟩
     ·have hv2:vs.length=2:=by have:=hop.2.2.2 o12;omega
      match vs,hv2 with
      |[x,y],_ =>
       obtain ⟨v,v1,v2⟩:=yl9 n' e.fOp ⟨hop.1,by omega⟩ x y
       rw [v1,z04]
       refine ⟨(v,0),rfl,?_⟩
       rw [<-v2]
       have n0:∀ k:Nat->Option (Va×Int),nat 0 2 k=k 0:=fun k=>y0j (by omega) k
       have n1:∀ k:Nat->Option (Va×Int),nat 1 2 k=k 1:=fun k=>yca (by omega) k
       have e0:∀ k:Va->Option (Va×Int),elt [x,y] 0 k=k x:=fun k=>zik (by simp) k
       have e1:∀ k:Va->Option (Va×Int),elt [x,y] 1 k=k y:=fun k=>zik (by simp) k
       have l0:∀ z:Option (Va×Int),ltx 0 2 z=z:=fun z=>y5n (by omega) z
       have l1:∀ z:Option (Va×Int),ltx 1 2 z=z:=fun z=>y5n (by omega) z
       simp only [zny,z0d,length_map,length_cons,length_nil,Nat.zero_add,Nat.reduceAdd,w21,n0,n1,e0,e1,l0,l1]
    simp_all
theorem yga (a b:List (List Ev))(hb:∀ v,(evs a v).length<=1000000)(own:Int)(ev:Ev)(s:Nat)(e:Exn)(hab:∀ i:Nat,Occ i e->evs a (i:Int)=evs b (i:Int))(ht:ETr s e)(hs:s<=4000000)(n:Nat)(hn:10000000<n) :
  ∃ r,z2y n e ⟨a⟩ own ev=some r/\zfb n e ⟨b⟩ own ev=some r:=by
 obtain ⟨c,c1,c2,c3⟩:=yh0 s e ht hs n (by omega)
 unfold z2y zfb zeu zl8
 rw [c1,c2]
 simp only [z04,z0d,z0y,ygw,y96,z24,z1d,z51,zdg]
 by_cases hc:c=0
 ·simp only [hc,if_true]
  obtain ⟨r,r1,r2⟩:=yqu a b hb own ev s e (c3 hc) hab hs n (by omega)
  rw [r1,r2]
  simp only [z04]
  split
  all_goals simp_all
 ·simp only [hc,if_false,z04]
  exact ⟨_,rfl,rfl⟩
def y38 {α:Type}(p:α->Bool)(l:List α):Int:=match l.findIdx? p with|some j=>(j:Int)|none=>-1
theorem zkr {α:Type}(p:α->Bool)(l:List α):decide (0<=y38 p l)=l.any p:=by
 unfold y38
 grind
def zp0 {α:Type}(p:α->Bool)(k:Nat)(l:List α):Int:=match l.findIdx? p with|some j=>((k+j:Nat):Int)|none=>-1
theorem zgm {α:Type}(p:α->Bool)(k:Nat)(x:α)(l:List α):zp0 p k (x::l)=if p x=true then (k:Int) else zp0 p (k+1) l:=by
 unfold zp0
 grind
theorem zgl {α:Type}(p:α->Bool)(l:List α):zp0 p 0 l=y38 p l:=by
 unfold zp0 y38
 simp_all
theorem y57 (n:Nat)(x:Int)(l:List Int)(hl:l.length<=1000000000):∀ (m k:Nat),k<=l.length->l.length<m+k->zcg n x l (some (-1)) m (k:Int)=some (zp0 (fun y=>decide (x=y)) k (l.drop k))
 |0,k,h1,h2=>by omega
 |m+1,k,h1,h2=>by
  unfold zcg
  simp only [length_map,z0d]
  by_cases h:k<l.length
  ·rw [if_pos (by omega),z0k h,z0e l k h,zgm,z1s k (by omega),y57 n x l hl m (k+1) (by omega) (by omega)]
   grind
  ·rw [if_neg (by omega),drop_eq_nil_of_le (by omega)]
   rfl
theorem zmx (n:Nat)(x:Int)(l:List Int)(hl:l.length<=1000000000)(hn:l.length<n):z8b n l x=some (l.any fun y=>decide (x=y)):=by
 unfold z8b zi6
 have:=y57 n x l hl n 0 (by omega) (by omega)
 simp only [Int.natCast_zero,drop_zero,zgl] at this
 rw [this,z04,zkr]
theorem zy0 (n:Nat)(a1c0:z0v)(p:z0v->Bool)(l:List z0v)(hl:l.length<=1000000000)(hb:∀ x∈l,zam n x a1c0=some (p x)):∀ (m k:Nat),k<=l.length->l.length<m+k->z9v n a1c0 l (some (-1)) m (k:Int)=some (zp0 p k (l.drop k))
 |0,k,h1,h2=>by omega
 |m+1,k,h1,h2=>by
  unfold z9v
  simp only [length_map,z0d]
  by_cases h:k<l.length
  ·rw [if_pos (by omega),z0k h,z0e l k h,zgm,hb _ (getElem_mem h),z04,z1s k (by omega),zy0 n a1c0 p l hl hb m (k+1) (by omega) (by omega)]
   cases p l[k]<;>simp [z5c]
  ·rw [if_neg (by omega),drop_eq_nil_of_le (by omega)]
   rfl
theorem yo4 (n:Nat)(a1c0:z0v)(p:z0v->Bool)(l:List z0v)(hl:l.length<=1000000000)(hn:l.length<n)(hb:∀ x∈l,zam n x a1c0=some (p x)):zdx n l a1c0=some (y38 p l):=by
 unfold zdx
 have:=zy0 n a1c0 p l hl hb n 0 (by omega) (by omega)
 simpa only [Int.natCast_zero,drop_zero,zgl] using this
theorem yr1 (n:Nat)(a1c0:z0v)(p:z0v->Bool)(l:List z0v)(hl:l.length<=1000000000)(hn:l.length<n)(hb:∀ x∈l,zam n x a1c0=some (p x)):z9x n l a1c0=some (l.any p):=by
 unfold z9x
 rw [yo4 n a1c0 p l hl hn hb,z04,zkr]
theorem zni (n:Nat)(p:z1h->Bool)(l:List z1h)(hl:l.length<=1000000000)(hb:∀ x∈l,zae n x=some (p x)):∀ (m k:Nat),k<=l.length->l.length<m+k->z6f n l (some (-1)) m (k:Int)=some (zp0 p k (l.drop k))
 |0,k,h1,h2=>by omega
 |m+1,k,h1,h2=>by
  unfold z6f
  simp only [length_map,z0d]
  by_cases h:k<l.length
  ·rw [if_pos (by omega),z0k h,z0e l k h,zgm,hb _ (getElem_mem h),z04,z1s k (by omega),zni n p l hl hb m (k+1) (by omega) (by omega)]
   cases p l[k]<;>simp [z5c]
  ·rw [if_neg (by omega),drop_eq_nil_of_le (by omega)]
   rfl
theorem y9a (n:Nat)(p:z1h->Bool)(l:List z1h)(hl:l.length<=1000000000)(hn:l.length<n)(hb:∀ x∈l,zae n x=some (p x)):zb0 n l=some (y38 p l):=by
 unfold zb0
 have:=zni n p l hl hb n 0 (by omega) (by omega)
 simpa only [Int.natCast_zero,drop_zero,zgl] using this
theorem ye1 (n:Nat)(p:z1h->Bool)(l:List z1h)(hl:l.length<=1000000000)(hn:l.length<n)(hb:∀ x∈l,zae n x=some (p x)):z6g n l=some (l.any p):=by
 unfold z6g
 rw [y9a n p l hl hn hb,z04,zkr]
theorem zng (n:Nat)(a1c0:z03)(p:z0h->Bool)(l:List z0h)(hl:l.length<=1000000000)(hb:∀ x∈l,zgf n (⟨x.fVar,⟨x.fRef.fTime,x.fRef.fSource,x.fRef.fSeq⟩⟩:z0h) a1c0=some (p x)):∀ (m k:Nat),k<=l.length->l.length<m+k->z6d n a1c0 l (some (-1)) m (k:Int)=some (zp0 p k (l.drop k))
 |0,k,h1,h2=>by omega
 |m+1,k,h1,h2=>by
  unfold z6d
  simp only [length_map,z0d]
  by_cases h:k<l.length
  ·rw [if_pos (by omega),z0k h,z0e l k h,zgm,hb _ (getElem_mem h),z04,z1s k (by omega),zng n a1c0 p l hl hb m (k+1) (by omega) (by omega)]
   cases p l[k]<;>simp [z5c]
  ·rw [if_neg (by omega),drop_eq_nil_of_le (by omega)]
   rfl
theorem y98 (n:Nat)(a1c0:z03)(p:z0h->Bool)(l:List z0h)(hl:l.length<=1000000000)(hn:l.length<n)(hb:∀ x∈l,zgf n (⟨x.fVar,⟨x.fRef.fTime,x.fRef.fSource,x.fRef.fSeq⟩⟩:z0h) a1c0=some (p x)):zay n l a1c0=some (y38 p l):=by
 unfold zay
 have:=zng n a1c0 p l hl hb n 0 (by omega) (by omega)
 simpa only [Int.natCast_zero,drop_zero,zgl] using this
theorem ydz (n:Nat)(a1c0:z03)(p:z0h->Bool)(l:List z0h)(hl:l.length<=1000000000)(hn:l.length<n)(hb:∀ x∈l,zgf n (⟨x.fVar,⟨x.fRef.fTime,x.fRef.fSource,x.fRef.fSeq⟩⟩:z0h) a1c0=some (p x)):z97 n l a1c0=some (l.any p):=by
 unfold z97
 rw [y98 n a1c0 p l hl hn hb,z04,zkr]
theorem znh (n:Nat)(a1c0:z03)(p:z00->Bool)(l:List z00)(hl:l.length<=1000000000)(hb:∀ x∈l,zgg n x a1c0=some (p x)):∀ (m k:Nat),k<=l.length->l.length<m+k->z6e n a1c0 l (some (-1)) m (k:Int)=some (zp0 p k (l.drop k))
 |0,k,h1,h2=>by omega
 |m+1,k,h1,h2=>by
  unfold z6e
  simp only [length_map,z0d]
  by_cases h:k<l.length
  ·rw [if_pos (by omega),z0k h,z0e l k h,zgm,hb _ (getElem_mem h),z04,z1s k (by omega),znh n a1c0 p l hl hb m (k+1) (by omega) (by omega)]
   cases p l[k]<;>simp [z5c]
  ·rw [if_neg (by omega),drop_eq_nil_of_le (by omega)]
   rfl
theorem y99 (n:Nat)(a1c0:z03)(p:z00->Bool)(l:List z00)(hl:l.length<=1000000000)(hn:l.length<n)(hb:∀ x∈l,zgg n x a1c0=some (p x)):zaz n l a1c0=some (y38 p l):=by
 unfold zaz
 have:=znh n a1c0 p l hl hb n 0 (by omega) (by omega)
 simpa only [Int.natCast_zero,drop_zero,zgl] using this
theorem ye0 (n:Nat)(a1c0:z03)(p:z00->Bool)(l:List z00)(hl:l.length<=1000000000)(hn:l.length<n)(hb:∀ x∈l,zgg n x a1c0=some (p x)):z98 n l a1c0=some (l.any p):=by
 unfold z98
 rw [y99 n a1c0 p l hl hn hb,z04,zkr]
theorem zls (n:Nat)(a1c0:z0i)(a1c1:z03)(p:z0v->Bool)(l:List z0v)(hl:l.length<=1000000000)(hb:∀ x∈l,z4a n x (⟨a1c0.fVars⟩:z0i) a1c1=some (p x)):∀ (m k:Nat),k<=l.length->l.length<m+k->z5p n a1c1 a1c0 l (some (-1)) m (k:Int)=some (zp0 p k (l.drop k))
 |0,k,h1,h2=>by omega
 |m+1,k,h1,h2=>by
  unfold z5p
  simp only [length_map,z0d]
  by_cases h:k<l.length
  ·rw [if_pos (by omega),z0k h,z0e l k h,zgm,hb _ (getElem_mem h),z04,z1s k (by omega),zls n a1c0 a1c1 p l hl hb m (k+1) (by omega) (by omega)]
   cases p l[k]<;>simp [z5c]
  ·rw [if_neg (by omega),drop_eq_nil_of_le (by omega)]
   rfl
theorem y56 (n:Nat)(a1c0:z0i)(a1c1:z03)(p:z0v->Bool)(l:List z0v)(hl:l.length<=1000000000)(hn:l.length<n)(hb:∀ x∈l,z4a n x (⟨a1c0.fVars⟩:z0i) a1c1=some (p x)):zac n l a1c0 a1c1=some (y38 p l):=by
 unfold zac
 have:=zls n a1c0 a1c1 p l hl hb n 0 (by omega) (by omega)
 simpa only [Int.natCast_zero,drop_zero,zgl] using this
theorem y9c (n:Nat)(a1c0:z0i)(a1c1:z03)(p:z0v->Bool)(l:List z0v)(hl:l.length<=1000000000)(hn:l.length<n)(hb:∀ x∈l,z4a n x (⟨a1c0.fVars⟩:z0i) a1c1=some (p x)):z8i n l a1c0 a1c1=some (l.any p):=by
 unfold z8i
 rw [y56 n a1c0 a1c1 p l hl hn hb,z04,zkr]
theorem zlr (n:Nat)(a1c0:z0u)(a1c1:z0i)(a1c2:z03)(p:z0v->Bool)(l:List z0v)(hl:l.length<=1000000000)(hb:∀ x∈l,z3t n x a1c0 (⟨a1c1.fVars⟩:z0i) a1c2=some (p x)):∀ (m k:Nat),k<=l.length->l.length<m+k->z5o n a1c2 a1c1 a1c0 l (some (-1)) m (k:Int)=some (zp0 p k (l.drop k))
 |0,k,h1,h2=>by omega
 |m+1,k,h1,h2=>by
  unfold z5o
  simp only [length_map,z0d]
  by_cases h:k<l.length
  ·rw [if_pos (by omega),z0k h,z0e l k h,zgm,hb _ (getElem_mem h),z04,z1s k (by omega),zlr n a1c0 a1c1 a1c2 p l hl hb m (k+1) (by omega) (by omega)]
   cases p l[k]<;>simp [z5c]
  ·rw [if_neg (by omega),drop_eq_nil_of_le (by omega)]
   rfl
theorem y55 (n:Nat)(a1c0:z0u)(a1c1:z0i)(a1c2:z03)(p:z0v->Bool)(l:List z0v)(hl:l.length<=1000000000)(hn:l.length<n)(hb:∀ x∈l,z3t n x a1c0 (⟨a1c1.fVars⟩:z0i) a1c2=some (p x)):zab n l a1c0 a1c1 a1c2=some (y38 p l):=by
 unfold zab
 have:=zlr n a1c0 a1c1 a1c2 p l hl hb n 0 (by omega) (by omega)
 simpa only [Int.natCast_zero,drop_zero,zgl] using this
theorem y9b (n:Nat)(a1c0:z0u)(a1c1:z0i)(a1c2:z03)(p:z0v->Bool)(l:List z0v)(hl:l.length<=1000000000)(hn:l.length<n)(hb:∀ x∈l,z3t n x a1c0 (⟨a1c1.fVars⟩:z0i) a1c2=some (p x)):z8h n l a1c0 a1c1 a1c2=some (l.any p):=by
 unfold z8h
 rw [y55 n a1c0 a1c1 a1c2 p l hl hn hb,z04,zkr]
theorem zlq (n:Nat)(a1c0:z1h)(p:z0a->Bool)(l:List z0a)(hl:l.length<=1000000000)(hb:∀ x∈l,zh0 n x a1c0=some (p x)):∀ (m k:Nat),k<=l.length->l.length<m+k->z5n n a1c0 l (some (-1)) m (k:Int)=some (zp0 p k (l.drop k))
 |0,k,h1,h2=>by omega
 |m+1,k,h1,h2=>by
  unfold z5n
  simp only [length_map,z0d]
  by_cases h:k<l.length
  ·rw [if_pos (by omega),z0k h,z0e l k h,zgm,hb _ (getElem_mem h),z04,z1s k (by omega),zlq n a1c0 p l hl hb m (k+1) (by omega) (by omega)]
   cases p l[k]<;>simp [z5c]
  ·rw [if_neg (by omega),drop_eq_nil_of_le (by omega)]
   rfl
theorem y54 (n:Nat)(a1c0:z1h)(p:z0a->Bool)(l:List z0a)(hl:l.length<=1000000000)(hn:l.length<n)(hb:∀ x∈l,zh0 n x a1c0=some (p x)):zaa n l a1c0=some (y38 p l):=by
 unfold zaa
 have:=zlq n a1c0 p l hl hb n 0 (by omega) (by omega)
 simpa only [Int.natCast_zero,drop_zero,zgl] using this
theorem zlp (n:Nat)(a1c0:z0u)(p:z0a->Bool)(l:List z0a)(hl:l.length<=1000000000)(hb:∀ x∈l,z65 n x a1c0=some (p x)):∀ (m k:Nat),k<=l.length->l.length<m+k->z5m n a1c0 l (some (-1)) m (k:Int)=some (zp0 p k (l.drop k))
 |0,k,h1,h2=>by omega
 |m+1,k,h1,h2=>by
  unfold z5m
  simp only [length_map,z0d]
  by_cases h:k<l.length
  ·rw [if_pos (by omega),z0k h,z0e l k h,zgm,hb _ (getElem_mem h),z04,z1s k (by omega),zlp n a1c0 p l hl hb m (k+1) (by omega) (by omega)]
   cases p l[k]<;>simp [z5c]
  ·rw [if_neg (by omega),drop_eq_nil_of_le (by omega)]
   rfl
theorem y53 (n:Nat)(a1c0:z0u)(p:z0a->Bool)(l:List z0a)(hl:l.length<=1000000000)(hn:l.length<n)(hb:∀ x∈l,z65 n x a1c0=some (p x)):za9 n l a1c0=some (y38 p l):=by
 unfold za9
 have:=zlp n a1c0 p l hl hb n 0 (by omega) (by omega)
 simpa only [Int.natCast_zero,drop_zero,zgl] using this
end Go.Proofs.YtidhlpjgifoneaaGreat
