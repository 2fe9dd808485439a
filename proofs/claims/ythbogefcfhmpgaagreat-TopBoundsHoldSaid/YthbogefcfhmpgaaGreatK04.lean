/- What a walked function computes, as a term over plain values. -/
import Derived.Test.YthbogefcfhmpgaaGreatK03
import Derived.Lib.AppendStr
import GoSem.Instr.MapEntry
import Derived.Test.YthbogefcfhmpgaaGreatProg
import Derived.KernelRfl
set_option linter.unusedVariables false
set_option linter.unusedSimpArgs false
namespace Go.Proofs.YthbogefcfhmpgaaGreat
open Go.RowKit List
open _root_.Array renaming getD_eq_getD_getElem?->aA,getElem?_append_left->aO,getElem?_setIfInBounds_ne->aT,replicate->aX,length_toList->aZ,size_setIfInBounds->bG,getD->bL,getElem?_toList->bN,toList_map->cE,range->cQ
open Nat renaming eq_of_beq_eq_true->aB,le_refl->aD,beq->aE,le_of_ble_eq_true->aF,mul_le_mul_right->aH,ne_of_beq_eq_false->aR,ble->bK,sub_self->bY,succ_mul->bZ,add_zero->cA,zero_add->cB,blt->cN,le_trans->cP
open List renaming getD_eq_getElem?_getD->aC,replicate->aG,length_map->aJ,getElem_replicate->aN,mem_iff_getElem->aQ,getElem_map->aV,mem_cons_of_mem->aY,getElem?_eq_getElem->bA,map_cons->bD,all_eq_true->bE,getElem_cons_zero->bF,mem_filterMap->bH,getElem?_map->bM,getElem_append->bO,getElem_set->bP,mem_of_find?_eq_some->bQ,any_eq_true->bR,findIdx?_cons->bV,mem_cons_self->bW,take_of_length_le->cC,getElem?_set_self->cD,mem_range->cG,length_replicate->cH,map_toArray->cJ,foldl_cons->cO
open Or renaming inr->aK,inl->aL
open AS renaming find->aM
open Gam renaming set_self->aP,set_ne->aU
open Option.some renaming injEq->aS
open Option renaming map_some->aW,map_none->cL
open AV renaming cells->bB,renL->bS,inML->bT,closedL->bX
open Bool renaming false_eq_true->bC,and_eq_true->bI,eq_iff_iff->cK,or_eq_true->cM
open WP renaming mono->bJ
open AW renaming weaken->bU
open Dv renaming of->cI
section
variable {α β γ δ:Type}
def cnd (b:Bool)(x y:Option β):Option β:=match b with|true=>x|false=>y
def idx (l:List α)(n:Int)(k:α->Option β):Option β:=if 0<=n then(match l[n.toNat]? with|some x=>k x|none=>none)else none
def nat (n:Int)(len:Nat)(k:Nat->Option β):Option β:=if 0<=n/\n.toNat<len then k n.toNat else none
def ltx (m len:Nat)(x:Option β):Option β:=if m<len then x else none
def elt (l:List α)(m:Nat)(k:α->Option β):Option β:=match l[m]? with|some x=>k x|none=>none
def slc (len:Nat)(lo hi:Int)(k:Nat->Nat->Option β):Option β:=if 0<=lo/\lo<=hi/\hi<=(len:Int)then k lo.toNat hi.toNat else none
def sls (l:List α)(lo hi:Int)(k:List α->Option β):Option β:=if 0<=lo/\lo<=hi/\hi<=(l.length:Int)then k ((l.take hi.toNat).drop lo.toNat)else none
def app (l m:List α)(bytes:Nat)(k:List α->Option β):Option β:=if l.length+m.length<=1099511627776/\(l.length+m.length)*bytes<=140737488355328 then k (l++m)else none
def mak (n:Int)(bytes:Nat)(z:α)(k:List α->Option β):Option β:=if 0<=n/\n.toNat<=1099511627776/\bytes*n.toNat<=281474976710656 then k (aG n.toNat z)else none
def stx (l:List α)(m:Nat)(f:α->α)(k:List α->Option β):Option β:=match l[m]? with|some x=>k (l.set m (f x))|none=>none
variable {κ ν:Type}
def mlk [DecidableEq κ]:List (κ×ν)->κ->Option ν
 |[],_=>none
 |(a,v)::r,k=>if k=a then some v else mlk r k
def mput [DecidableEq κ]:List (κ×ν)->κ->ν->List (κ×ν)
 |[],k,v=>[(k,v)]
 |(a,x)::r,k,v=>if k=a then(k,v)::r else(a,x)::mput r k v
def mgt [DecidableEq κ](l:List (κ×ν))(k:κ)(z:ν)(c:ν->Bool->Option β):Option β:=c ((mlk l k).getD z) (mlk l k).isSome
def mst [DecidableEq κ](l:List (κ×ν))(k:κ)(v:ν)(c:List (κ×ν)->Option β):Option β:=c (mput l k v)
def nzx (b:Int)(x:Option β):Option β:=if b=0 then none else x
def psx (b:Int)(x:Option β):Option β:=if 0<b then x else none
def shx (b:Int)(x:Option β):Option β:=if 0<=b then x else none
def bnd (o:Option α)(k:α->Option β):Option β:=match o with|some a=>k a|none=>none
def bndC (o:Option α)(k:α->Option β):Option β:=match o with|some a=>k a|none=>none
def bndR (o:Option α)(k:α->Option β):Option β:=match o with|some a=>k a|none=>none
def frz (id:Nat)(x:Option β):Option β:=x
def reg (x:Option β):Option β:=x
variable {x y:Option β}{r:β}
theorem A3.o {b:Bool}{p q:Prop}(h:cnd b x y=some r)(h1:x=some r->p)(a:y=some r->q):A3 b p q:=⟨λe=>h1 (by subst e;exact h),λe=>a (by subst e;exact h)⟩
variable {l:List α}{n:Int}{K:AV->Prop}{k:α->Option β}
theorem IdxX.o (enc:α->AV)(h:idx l n k=some r)(b:∀x,k x=some r->K (enc x)):IdxX (l.map enc) n K:=by
 unfold idx at h;split at h
 ·rename_i c;split at h
  ·rename_i x a;exact .mk n.toNat (enc x) Ω (by rw[bM,a];rfl) (b x h)
  ·cases h
 ·cases h
theorem IdxX.o2 {u v:AV}(h:cnd (decide (n=0)) x (cnd (decide (n=1)) y none)=some r)(a:x=some r->K u)(h1:y=some r->K v):IdxX [u,v] n K:=by
 unfold cnd at h;split at h
 ·rename_i e;exact .mk 0 u (of_decide_eq_true e) rfl (a h)
 ·split at h
  ·rename_i e;exact .mk 1 v (of_decide_eq_true e) rfl (h1 h)
  ·cases h
theorem I8 (a b:ByteArray):(a.toList == b.toList)=decide (a=b):=by
 rw[<-zkv,cK,MapKept.bytes_beq];simp
variable {len:Nat}
theorem NatX.o {K:Nat->Prop}{k:Nat->Option β}(h:nat n len k=some r)(b:∀m,k m=some r->K m):NatX n len K:=by
 unfold nat at h;split at h
 ·rename_i a;exact .mk n.toNat Ω a.2 (b _ h)
 ·cases h
theorem NatX.o2 {K:Nat->Prop}(h:cnd (decide (n=0)) x (cnd (decide (n=1)) y none)=some r)(a:x=some r->K 0)(h1:y=some r->K 1):NatX n 2 K:=by
 unfold cnd at h;split at h
 ·rename_i e;exact .mk 0 (of_decide_eq_true e) Ω (a h)
 ·split at h
  ·rename_i e;exact .mk 1 (of_decide_eq_true e) Ω (h1 h)
  ·cases h
theorem NatX.o3 {K:Nat->Prop}{z:Option β}(h:cnd (decide (n=0)) x (cnd (decide (n=1)) y (cnd (decide (n=2)) z none))=some r)(b:x=some r->K 0)(h1:y=some r->K 1)(a:z=some r->K 2):NatX n 3 K:=by
 unfold cnd at h;split at h
 ·rename_i e;exact .mk 0 (of_decide_eq_true e) Ω (b h)
 ·split at h
  ·rename_i e;exact .mk 1 (of_decide_eq_true e) Ω (h1 h)
  ·split at h
   ·rename_i e;exact .mk 2 (of_decide_eq_true e) Ω (a h)
   ·cases h
theorem LtX.o {m:Nat}{K:Prop}(h:ltx m len x=some r)(a:x=some r->K):LtX m len K:=by
 unfold ltx at h;split at h
 ·rename_i hm;exact .mk hm (a h)
 ·cases h
theorem EltX.o (enc:α->AV){m:Nat}(h:elt l m k=some r)(b:∀x,k x=some r->K (enc x)):EltX (l.map enc) m K:=by
 unfold elt at h;split at h
 ·rename_i x a;exact .mk (enc x) (by rw[bM,a];rfl) (b x h)
 ·cases h
theorem SlcX.o {lo hi:Int}{K:Nat->Nat->Prop}{k:Nat->Nat->Option β}(h:slc len lo hi k=some r)(a:∀l h,k l h=some r->K l h):SlcX len lo hi K:=by
 unfold slc at h;split at h
 ·rename_i b;exact .mk lo.toNat hi.toNat Ω Ω Ω Ω (a _ _ h)
 ·cases h
theorem SlsX.o (enc:α->AV){lo hi:Int}{K:List AV->Prop}{k:List α->Option β}(h:sls l lo hi k=some r)(a:∀l',k l'=some r->K (l'.map enc)):SlsX (l.map enc) lo hi K:=by
 unfold sls at h;split at h
 ·rename_i b;exact .mk lo.toNat hi.toNat Ω Ω Ω (by rw[aJ];omega) _ (by rw[map_drop,map_take]) (a _ h)
 ·cases h
variable {bytes:Nat}
theorem AppX.o {m:List α}(enc:α->AV){ys:List AV}{K:List AV->Prop}{k:List α->Option β}(h:app l m bytes k=some r)(hs:SubR ys (m.map enc))(c:∀l',k l'=some r->K (l'.map enc)):AppX ((l.map enc).length+ys.length) bytes (l.map enc++ys) K:=by
 have b:=hs.len;unfold app at h;split at h
 ·rename_i a;exact .sub ((l++m).map enc) (by rw[map_append];exact .append (.refl _) hs) (by rw[aJ,b,aJ];exact a.1) (by rw[aJ,b,aJ];exact a.2) (c _ h)
 ·cases h
theorem AppX.o0 {m:List α}(enc:α->AV){ys:List AV}{K:List AV->Prop}{k:List α->Option β}(h:app [] m bytes k=some r)(hs:SubR ys (m.map enc))(c:∀l',k l'=some r->K (l'.map enc)):AppX ys.length bytes ys K:=by
 have b:=hs.len;unfold app at h;split at h
 ·rename_i a;exact .sub (m.map enc) hs (by rw[b,aJ];simpa using a.1) (by rw[b,aJ];simpa using a.2) (c _ h)
 ·cases h
theorem MakX.o {z:α}(enc:α->AV){y:AV}{K:List AV->Prop}{k:List α->Option β}(h:mak n bytes z k=some r)(hs:SubL y.cells (enc z).cells)(b:∀l',k l'=some r->K (l'.map enc)):MakX n bytes y K:=by
 unfold mak at h;split at h
 ·rename_i a;exact .mk n.toNat Ω a.2.1 a.2.2 _ (by rw[map_replicate];exact .replicate hs _) (b _ h)
 ·cases h
theorem SetX.o (enc:α->AV){f:α->α}{m j n:Nat}{av:AV}{ok:AV->Bool}{put:AV->AV}{K:List AV->Prop}{k:List α->Option β}(h:stx l m f k=some r)(b:∀x,ok (enc x)=true)(a:∀x,SubL (put (enc x)).cells (enc (f x)).cells)(d:∀l',k l'=some r->K (l'.map enc)):SetX (l.map enc) m j n av ok put K:=by
 unfold stx at h;split at h
 ·rename_i x c;exact .mk (enc x) (by rw[bM,c];rfl) (b x) _ (by rw[map_set];exact .set (a x) _ _) (d _ h)
 ·cases h
theorem ShX.o {b:Int}{K:Prop}(h:shx b x=some r)(a:x=some r->K):ShX b K:=by
 unfold shx at h;split at h
 ·rename_i c;exact .mk c (a h)
 ·cases h
def encM (encK:κ->AV)(encV:ν->AV)(p:κ×ν):AV×AV:=(encK p.1,encV p.2)
theorem zk8 [DecidableEq κ](encK:κ->AV)(encV:ν->AV)(g:∀a b,eqK (encK a) (encK b)=some (decide (a=b)))(k:κ):∀(l:List (κ×ν)) (i:Nat),
  ∃r,Bt (encK k) ((l.map (encM encK encV)).map (·.1)) i=some r/\r.isSome=(mlk l k).isSome/\(∀j,r=some j->i<=j/\∃v,mlk l k=some v/\((l.map (encM encK encV)).getD (j-i) default).2=encV v) /\
   ∀(v:ν) (x:AV),Sub x (encV v)->SubM (putK (r.map (· - i)) (encK k) x (l.map (encM encK encV))) ((mput l k v).map (encM encK encV))
 |[],i=>⟨none,rfl,rfl,λj h=>(by cases h),λv x hs=>.cons _ hs .nil⟩
 |(a,v)::r,i=>by
  simp only[bD,encM,Bt,g,mlk,mput];by_cases c:k=a
  ·subst c;simp only[decide_true];refine⟨some i,rfl,Δ,λj d=>?_,λv' x hs=>?_⟩
   ·injection d with d;subst d;exact⟨aD _,v,Δ,Δ⟩
   ·simp only[if_true,aW,bY,putK,set_cons_zero,bD];exact .cons _ hs (.refl _)
  ·rw[decide_eq_false c];obtain⟨q,h1,t,m,p⟩:=zk8 encK encV g k r (i+1);refine⟨q,h1,by rw[t,if_neg c],λj d=>?_,λv' x hs=>?_⟩
   ·obtain⟨B,v',z,u⟩:=m j d;refine⟨Ω,v',by rw[if_neg c];exact z,?_⟩;rw[show j-i=(j-(i+1))+1 by omega,getD_cons_succ];exact u
   ·have:=p v' x hs;rw[if_neg c];cases q with
    |none=>exact .cons _ (.refl _) this
    |some j =>
     obtain⟨B,_⟩:=m j rfl;simp only[aW,putK]at this ⊢;rw[show j-i=(j-(i+1))+1 by omega,set_cons_succ];exact .cons _ (.refl _) this
theorem LkX.o [DecidableEq κ]{l:List (κ×ν)}{k:κ}{z:ν}{P:Program}{kt:Nat}{zA:AV}{K:AV->Bool->Prop}{c:ν->Bool->Option β}(encK:κ->AV)(encV:ν->AV)(h:mgt l k z c=some r)(m:Br P kt (encK k)=true)(p:∀a b,eqK (encK a) (encK b)=some (decide (a=b)))(g:Sub zA (encV z))
  (t:∀v b,c v b=some r->K (encV v) b):LkX P kt (encK k) (l.map (encM encK encV)) zA K:=by
 obtain⟨q,h1,d,u,_⟩:=zk8 encK encV p k l 0;refine .mk q (encV ((mlk l k).getD z)) (mlk l k).isSome m h1 d ?_ (t _ _ h);cases q with
 |none =>
  have:mlk l k=none:=by cases hm:mlk l k with
   |none=>rfl
   |some v=>rw[hm]at d;cases d
  rw[this];exact g
 |some j =>
  obtain⟨_,v,C,B⟩:=u j rfl;rw[C,Option.getD_some,<-B];exact .refl _
theorem UpX.o [DecidableEq κ]{l:List (κ×ν)}{k:κ}{v:ν}{P:Program}{kt:Nat}{x:AV}{K:List (AV×AV)->Prop}{c:List (κ×ν)->Option β}(encK:κ->AV)(encV:ν->AV)(h:mst l k v c=some r)(g:Br P kt (encK k)=true)(m:∀a b,eqK (encK a) (encK b)=some (decide (a=b)))(d:Sub x (encV v))
  (p:∀l',c l'=some r->K (l'.map (encM encK encV))):UpX P kt (encK k) x (l.map (encM encK encV)) K:=by
 obtain⟨q,h1,_,_,t⟩:=zk8 encK encV m k l 0;refine .mk q _ g h1 ?_ (p _ h);have:=t v x d;cases q with
 |none=>exact this
 |some j=>exact this
theorem PosX.o {b:Int}{K:Prop}(h:psx b x=some r)(a:x=some r->K):PosX b K:=by
 unfold psx at h;split at h
 ·rename_i c;exact .mk c (a h)
 ·cases h
theorem NzX.o {b:Int}{K:Prop}(h:nzx b x=some r)(a:x=some r->K):NzX b K:=by
 unfold nzx at h;split at h
 ·cases h
 ·rename_i c;exact .mk c (a h)
section
variable {E:Env} {nt:Nat} {f:FuncId} {avs:List AV}
variable {fr:Bool}{R:Nat->Nat->List AV->AV->Prop}{find:Nat->Option Ent}{KR:AV->List Nat->List (Nat×Ent)->Prop}
theorem Ab.o {o:Option α}(h:bnd o k=some r)(enc:α->AV)(c:∀a,o=some a->Con E fr f avs (enc a))(b:∀a,k a=some r->K (enc a)):Ab E f avs K R find KR:=by
 unfold bnd at h;split at h
 ·exact .mk fr _ (c _ rfl) (b _ h)
 ·cases h
variable {ty sz:Nat}
theorem Ab.oR {o:Option α}(h:bndR o k=some r)(rl:α->List γ)(encE:γ->AV)(res:α->AV)(b:E.dr=false)(d:∀a,o=some a->ConT E f avs ty sz ((rl a).map encE) (res a))(c:∀a,k a=some r->R ty sz ((rl a).map encE) (res a)):Ab E f avs K R find KR:=by
 unfold bndR at h;split at h
 ·exact .rowT ty sz _ _ b (d _ rfl) (c _ h)
 ·cases h
variable {raw:List AV}{dst:Option Nat}
theorem B5.o {o:Option α}(h:bnd o k=some r)(enc:α->AV)(d:∀a,o=some a->Con E fr f avs (enc a))(c:∀a,fr=true\/(enc a).flat=true)(b:∀a,k a=some r->K (enc a)):B5 E f avs K raw find dst KR:=by
 unfold bnd at h;split at h
 ·exact .mk fr _ (d _ rfl) (c _) (b _ h)
 ·cases h
variable {xs cargs:List AV}
theorem B5.oC {o:Option α}{d b c:Nat}(h:bndC o k=some r)(id:Nat)(rl:α->List γ)(encE:γ->AV)(res:α->AV)(g:E.dr=false)(z:∀a,o=some a->ConC false E f cargs ty sz xs b c ((rl a).map encE) (res a))
  (p:bS (λ_=>id) cargs=raw) (m:bT [0] cargs=true) (t:find id=some (.row ty sz xs)) (v:dst=some d) (q:find d=none) (j:aE id d=false) (u:∀a,k a=some r->KR ((res a).ren λ_=>d) [d,id] [(d,.row b c ((rl a).map encE)),(id,.dead)]):B5 E f avs K raw find dst KR:=by
 unfold bndC at h;split at h
 ·exact .take id d ty sz xs b c _ _ cargs g (z _ rfl) p m t v q (aR j) (u _ h)
 ·cases h
theorem B5.oE {o:Option α}{b:List AV}(h:bnd o k=some r)(id:Nat)(enc:α->AV)(d:find id=some (.row ty sz xs))(j:∀a,o=some a->Con E fr f b (enc a))(m:AV.frzL id sz xs raw=b)(c:bX b=true)(g:∀a,k a=some r->KR (enc a) [id] [(id,.dead)]):B5 E f avs K raw find dst KR:=by
 unfold bnd at h;split at h
 ·exact .eat id ty sz xs b fr _ d m c (j _ rfl) (g _ h)
 ·cases h
theorem B5.oI {o:Option α}(h:bndC o k=some r)(id:Nat)(rl:α->List γ)(encE:γ->AV)(res:α->AV)(b:E.dr=false)(m:∀a,o=some a->ConC true E f cargs ty sz xs ty sz ((rl a).map encE) (res a))
  (d:bS (λ_=>id) cargs=raw) (c:bT [0] cargs=true) (g:find id=some (.row ty sz xs)) (j:∀a,k a=some r->KR ((res a).ren λ_=>id) [id] [(id,.row ty sz ((rl a).map encE))]):B5 E f avs K raw find dst KR:=by
 unfold bndC at h;split at h
 ·exact .turn id ty sz xs _ _ cargs b (m _ rfl) d c g (j _ h)
 ·cases h
theorem Au.o {V:Type}{L:Nat->V->Option β}{S:V->AS}{σ:AS}{F:(AS->Prop)->AS->Prop}{n:Nat}{b:V}(h:L n b=some r)(d:∀v,L 0 v=none)(g:LeX E nt σ (S b))(round:∀m v,L (m+1) v=some r->F (λa=>∃v',L m v'=some r/\LeX E nt a (S v')) (S v))
  (mono:∀(P Q:AS->Prop) σ,(∀σ,P σ->Q σ)->F P σ->F Q σ):Au E nt F σ:=by
 refine .mk (λm σ=>∃v,L m v=some r/\σ=S v) n (S b) g ⟨b,h,rfl⟩ ?_;rintro m σ ⟨v,c,rfl⟩;cases m with
 |zero=>rw[d]at c;cases c
 |succ m =>
  refine mono _ _ _ (λa ⟨v',h1,j⟩=>?_) (round m v c);exact⟨m,S v',j,Nat.lt_succ_self _,v',h1,rfl⟩
end
theorem RetX.o {v:AV}{a:β}{enc:β->AV}(h:some a=some r)(hs:Sub v (enc a)):RetX v (enc r):=by injection h with h;subst h;exact .sub hs
theorem TX.o {E:Env}{nt:Nat}{fn:Func}{σ:AS}{ty sz:Nat}{a:β}{rl:β->List AV}{res:β->AV}(h:some a=some r)(b:TX E nt fn σ ty sz (rl a) (res a)):TX E nt fn σ ty sz (rl r) (res r):=by injection h with h;subst h;exact b
end
section
variable {E:Env} {nt:Nat}
theorem AW.mono1 {c:Code}{K:Exit->AS->Prop}{P Q:AS->Prop}{σ:AS}(h:∀σ,P σ->Q σ)(k:AW E nt (Cv P K) [.code c] .normal σ):AW E nt (Cv Q K) [.code c] .normal σ:=⟨λcx g d=>bJ (k.out cx g d) (λe b a=>by cases e<;>first|exact h _ a|exact a)⟩
end
section
variable {β V:Type} {E:Env} {nt:Nat} {R:Exit->AS->Prop} {K:List Bu}
theorem LoopA.o {L:Nat->V->Option β}{S:V->AS}{σ:AS}{c:Code}{r:β}{n:Nat}{d:V}(h:L n d=some r)(g:∀v,L 0 v=none)(j:LeX E nt σ (S d))
  (round:∀m v,L (m+1) v=some r->AW E nt (Cv (λa=>∃v',L m v'=some r/\LeX E nt a (S v')) (AW E nt R K)) [.code c] .normal (S v)):Au E nt (λnext a=>AW E nt (Cv next (AW E nt R K)) [.code c] .normal a) σ :=
 Au.o h g j round (λP Q σ b p=>AW.mono1 b p)
theorem AW.frzO {id ty sz:Nat}{xs:List AV}{c:Code}{σ:AS}{x:Option β}{y:β}(h:frz id x=some y)(r:Nat)(a:σ.find r=some (.row ty sz xs))(k:x=some y->AW E nt R (.code c::K) .normal (σ.frzAll r sz xs)):AW E nt R (.code c::K) .normal σ:=bU (LeX.frzAll r ty sz xs a) (k h)
theorem AW.regO {id:Nat}{a:Array Oper}{d:Bool}{σ:AS}{x:Option β}{y:β}(h:reg x=some y)(k:x=some y->AW E nt R (.ops d a a.toList [] []::K) .normal σ):AW E nt R (.code (.region id a d)::K) .normal σ:=AW.into (k h)
end
def AS.putS (σ:AS)(t:Nat)(v:AV):AS:=⟨(t,v)::σ.tm,σ.me⟩
variable {E:Env}{nt:Nat}{σ:AS}
theorem LeX.put (t:Nat)(v:AV)(hs:Sub (σ.get t) v):LeX E nt σ (σ.putS t v):=λcx g d a w ⟨γ,h⟩=>by
 refine⟨γ,λu=>?_,λi=>h.me i,h.inj,h.ge,h.below,h.size,h.defers,h.gh,h.fr,h.dr⟩;by_cases b:t=u
 ·subst b;have e:(σ.putS t v).get t=v:=by simp[AS.putS,AS.get,lkV]
  rw[e];exact(h.tm t).sub hs
 ·have e:(σ.putS t v).get u=σ.get u:=by
   unfold AS.putS AS.get;simp only[lkV];cases c:aE t u with
   |true=>exact absurd (aB c) b
   |false=>rfl
  rw[e];exact h.tm u
attribute [irreducible] cnd idx nat ltx elt slc sls app mak stx nzx shx bnd bndC bndR frz reg mgt mst psx
def Uj (s:ByteArray)(m:Nat):Option UInt8:=s.data[m]?
section
variable {P:Program}
end
section
variable {cx:Cx} {o:Oper} {σ:AS}
theorem y8b {P:Program}{T:Nat}{i:TyI}(h:TyOk P T i)(hs:i.shape=.str):P.underlying T=some .string:=by
 obtain⟨dd,b,a⟩:=h.und;rw[hs]at a;cases dd<;>simp only[Du,reduceCtorEq]at a;exact b
theorem zvm {T:Nat}{x y:Operand}{i:TyI}{s:ByteArray}{k:IntKind}{n:Int}{m:Nat}{b:UInt8}(q:o.op=.index T x y)(D:dok cx o=true)(p:A6 x=true)(j:A6 y=true)(B:σ.eval x=.str s)(z:σ.eval y=.int k n)(H:lkT cx.E.tab T=some i)
  (hs:i.shape=.str) (hm:n=(m:Int)) (G:Uj s m=some b):Ao cx o σ (.int .u8 b.toNat) [] [] :=
 Bc D λτ γ a w h1 I d=>by
  have h:=d.ev x p;rw[h1 x (by simp[q,Op.operands]),B]at h;have c:=d.ev y j;rw[h1 y (by simp[q,Op.operands]),z]at c;have u:=y8b (cx.E.ok T i H) hs;obtain⟨t,v⟩:=Array.getElem?_eq_some_iff.1 G;have g:m<s.size:=t;have C:s[m]? = some b:=by
   rw[getElem?_pos s m g];exact congrArg some v
  subst hm;refine⟨.int .u8 b.toNat,?_,.int _ _⟩;simp[execOp,q,h.str_inv,c.int_inv,Instr.index,asIntOf,run_underlying u,C,pure]
theorem zaw {T n d:Nat}{ps:Array (Nat×Operand)}{i ie:TyI}{e esz eb:Nat}{xs:List AV}(ho:o.op=.buildSlice T n ps)(C:o.dst=some d)(hd:dok cx o=true)(hT:lkT cx.E.tab T=some i)(hs:i.shape=.slc e esz eb)(he:lkT cx.E.tab e=some ie)(hz:esz≠0)(hn:bK (n*esz) 16777216=true)
  (Y:ie.zero.cells.all (·.oneCell')=true) (Z:cN 0 ie.zero.cells.size=true) (aa:Fp σ ps=true) (af:bX xs=true) (t:xs.length=n) (hl:xs.all (λx=>aE x.cells.length esz)=true)
  (hf:Dh (λj=>some (j*esz,esz)) (aG (n*esz) .any) (Ct σ ps)=some (xs.flatMap bB)) (ab:σ.find d=none):Ao cx o σ (.row d) (d::Fq (Ct σ ps)) [(d,.row e esz xs)]:=by
 refine⟨λid e he=>?_,λτ h1 h2 a w Q K ⟨γ,O⟩ hK=>C9 (λc hc=>by rw[ho]at hc;cases hc) ?_⟩
 ·have:=Dd he;simp at this;simp[this]
 have W:=zfe O aa (λp hp=>h1 p.2 (by simp only[ho,Op.operands,mem_toArray,mem_map];exact⟨p,hp,rfl⟩)) (λid ad=>h2 id (aY _ ad));have J:∀j,(ie.zero.cells[j % ie.zero.cells.size]!).oneCell'=true:=zyx Y (by simpa using Z);have M:CRel w (Sg cx.S0 cx.w0.heap.size γ) γ ((cQ (n*esz)).map (ie.zero.cells[· % ie.zero.cells.size]!)) (aG (n*esz) .any):=by
  refine⟨Δ,λj G=>by simp only[aN];exact .any _,λj G=>?_⟩;have D:j<n*esz:=by simpa using G
  have:((cQ (n*esz)).map (ie.zero.cells[· % ie.zero.cells.size]!)).getD j undef=ie.zero.cells[j % ie.zero.cells.size]! := by
   rw[aA,Array.getElem?_map,Array.getElem?_range,if_pos D];rfl
  rw[this];exact J j
 obtain⟨cells',H,ai,ah,ag⟩:=Yl (f:=a.eval) (g:=σ.eval) ps.toList _ _ _ W M hf;have U:=z72 (parts:=ps.map λp=>(p.1,a.eval p.2)) (cx.E.ok T i hT) hs (cx.E.ok e ie he) hz (aF hn) (by rw[cE];exact H) w;have L:Below w.heap.size w (w.alloc (.cells cells' e)):=(Below.refl _ _).alloc (aD _) _;have m:∀k (B:k<xs.length),(xs[k]).cells.length=esz:=λk B=>by
  simp only[bE]at hl;exact aB (hl _ (getElem_mem B))
 obtain⟨g1,g2⟩:=y3j m;have ac:∀k j,k<xs.length->j<esz->k*esz+j<xs.length*esz:=λk j B G=>by
  have:(k+1)*esz<=xs.length*esz:=aH _ B;rw[bZ]at this;omega
 have I:cells'.size=n*esz:=by rw[ai,g1,t]
 have aj:n<=16777216:=by
  have h:=aF hn;have:n*1<=n*esz:=Nat.mul_le_mul_left _ Ω;omega
 unfold Oper.wp;have ae:(execOp a.eval o).run cx.P w=.ok (.value (.slice (some ⟨w.heap.size,0,none⟩) n n)) (w.alloc (.cells cells' e)):=by
  have e':(ps.map λx=>match x with|(i,x)=>(i,a.eval x))=ps.map λp=>(p.1,a.eval p.2):=rfl
  simp only[execOp,ho,e',Sem.run_bind,Sem.run_pure,Result.andThen_ok,U]
 rw[ae];refine hK _ _ ?_;rw[C];refine Yp (v:=.slice (some ⟨w.heap.size,0,none⟩) n n) (us:=cells'.toList) O (λ_=>aD _) (by rw[h2 d Δ,ab]) (λx hx=>by injection hx with hx;subst hx;exact C5 hd _ C) L
  ⟨by rw[aZ,I,t],aK ⟨w.heap.size,n,cells',by rw[t],aD _,Blk.new w _ _,Ω,by unfold maxLen;omega,I,?_⟩⟩ m (λk B j G=>?_) (λu hu=>?_)
  (λhS=>.row (aP _ _ _) (λg s e _=>by injection e with e;injection e with _ e))
 ·rw[cC (by rw[aZ,I,t];exact aD _)]
 ·have D:j<esz:=by rw[<-m k B];exact G
  have z:k*esz+j<(xs.flatMap bB).length:=by rw[g1];exact ac k j B D
  have:=ah (k*esz+j) z;have N:=g2 k B j G;rw[bA z]at N;injection N with N
  rw[N]at this;have e2:cells'.toList.getD (k*esz+j) undef=cells'.getD (k*esz+j) undef:=by
   rw[aC,aA,bN]
  rw[e2];refine(this.mono L.size (λb hS z=>⟨L.block b z,aL hS,λe=>?_⟩)).close (zco (AV.closedL_at af k B) j G);simp only[Value.ownBlock,aS]at e;omega
 ·obtain⟨q,N,rfl⟩:=aQ.1 hu;have X:q<cells'.size:=by simpa using N
  have:=ag q X;rw[aA,Array.getElem?_eq_getElem X]at this;simpa using this
end
section
variable {cx:Cx} {o:Oper} {σ:AS}
variable {id ty sz:Nat}{xs:List AV}
theorem U4 {γ:Gam}{τ:AS}{a:Act}{w:World}(m:StG cx γ τ a w)(v:τ.find id=some (.row ty sz xs)) :
  ∃s vs,γ id=some (some (s.ownBlock,s))/\s.oneCell'=true/\w.ownsRow cx.w0.heap.size ty sz s xs.length vs/\(∀k (z:k<xs.length),(xs[k]).cells.length=sz) /\
   (∀k (z:k<xs.length) j (B:j<(xs[k]).cells.length),Rep w (Sg cx.S0 cx.w0.heap.size γ) G0 ((xs[k]).cells[j]) (vs.getD (k*sz+j) undef))/\∀u∈vs,u.oneCell'=true:=by
 have g:=m.me id;rw[v]at g;obtain⟨d,q,s,vs,p,h1,b,h,t,c⟩:=g;subst p;exact⟨s,vs,q,h1,b,h,t,c⟩
variable {T e esz eb lo:Nat}{x:Operand}{i:TyI}
theorem zvg {y:Operand}{k:IntKind}(I:o.op=.slice T x (some y) none none)(hd:dok cx o=true)(C:A6 x=true)(B:A6 y=true)(X:σ.eval x=.row id)(W:σ.eval y=.int k (lo:Int))(hT:lkT cx.E.tab T=some i)(hs:i.shape=.slc e esz eb)(q:esz≠0)
  (Z:σ.find id=some (.row ty esz xs)) (L:lo<=xs.length):Ao cx o σ (.der (.sub esz lo) id) [id] [] :=
 Bc hd λτ γ a w v M d=>by
  obtain⟨U,Q,m3⟩:=ziu I;have j:=d.ev x C;rw[v x U,X]at j;obtain⟨O,N,_⟩:=Cr (cx.E.ok T i hT) hs;have t:=Ej N q w;obtain⟨s,us,b,H,u,_⟩:=U4 (id:=id) d (by rw[M id Δ];exact Z);have m:∀c,xs.length<=c->(Instr.sliceBounds true xs.length c (some (a.eval y)) none none).run cx.P w=.ok (lo,xs.length,c) w:=λc hc =>
   zdr (σ:=σ) (l:=lo) (h:=xs.length) (c:=c) (n:=xs.length) (lo:=some y) (hi:=none) d B rfl (λz q=>v z (Q z q)) (λz q=>by cases q) (by simp[bndA,W]) (by simp[bndA]) L hc
  rcases u.2 with⟨G,h0⟩|⟨g,p,aa,G,_,_,J,_⟩
  ·have D:xs.length=0:=h0;have Y:lo=0:=Ω
   have m:=m 0 Ω;rw[D]at m;subst G;refine⟨.slice none 0 0,?_,.der b (λg s e=>by injection e with e;injection e with _ e;subst e;exact⟨rfl,rfl⟩)⟩;simp only[execOp,I,j.row_inv b,cL,aW,Sem.run_bind,Sem.run_pure,Result.andThen_ok];simp[Instr.sliceAt,Instr.slice,run_underlying O,m,t,pure]
  ·have m:=m p J;subst G;refine⟨.slice (some (if p=lo then⟨g,0,none⟩else⟨g,0+lo*esz,none⟩)) (xs.length-lo) (p-lo),?_,.der b (λg s e=>by injection e with e;injection e with _ e;subst e;exact⟨rfl,rfl⟩)⟩;simp only[execOp,I,j.row_inv b,cL,aW,Sem.run_bind,Sem.run_pure,Result.andThen_ok];simp[Instr.sliceAt,Instr.slice,run_underlying O,m,t,pure,Addr.add_lit];split<;>rfl
theorem y1f {γ:Gam}{τ:AS}{a:Act}{w:World}{v:Value}(z:StG cx γ τ a w)(J:τ.find id=some (.row ty sz xs))(G:Rep w (Sg cx.S0 cx.w0.heap.size γ) γ (.der (.sub sz lo) id) v)(I:lo<xs.length) :
  ∃g b c us,γ id=some (some (some g,.slice (some ⟨g,0,none⟩) xs.length b))/\v=.slice (some ⟨g,lo*sz,none⟩) (xs.length-lo) (b-lo)/\xs.length<=b/\w.ownsRow cx.w0.heap.size ty sz (.slice (some ⟨g,0,none⟩) xs.length b) xs.length us/\w.heap[g]? = some (.cells c ty (0,0))/\c.size=b*sz/\c.toList.take (xs.length*sz)=us/\(∀k (L:k<xs.length),(xs[k]).cells.length=sz) /\
   (∀k (L:k<xs.length) j (N:j<(xs[k]).cells.length),Rep w (Sg cx.S0 cx.w0.heap.size γ) G0 ((xs[k]).cells[j]) (us.getD (k*sz+j) undef))/\∀u∈us,u.oneCell'=true:=by
 obtain⟨s,us,q,B,d,p,H,m⟩:=U4 z J;have h:=d;rcases d.2 with⟨hs,O⟩|⟨g,b,c,hs,_,M,C,_,D,t⟩
 ·omega
 ·subst hs;refine⟨g,b,c,us,q,?_,C,h,M,D,t,p,H,m⟩;rw[G.der_inv q];have:¬b=lo:=Ω
  simp[cI,this]
theorem y1o {ty:TypeId}(v:o.op=.call { callee:=.builtin .len,args:=#[x],argTypes:=#[T] })(G:dok cx o=true)(m:A6 x=true)(z:σ.eval x=.der (.sub sz lo) id)(D:σ.find id=some (.row ty sz xs))(H:lkT cx.E.tab T=some i)(hs:i.shape=.slc e esz eb)(C:lo<=xs.length):Ao cx o σ (.int .i64 ((xs.length-lo:Nat):Int)) [id] [] :=
 Bc G λτ γ a w h1 I d=>by
  have j:=d.ev x m;rw[h1 x (by simp[v,Op.operands,Call.operands]),z]at j;obtain⟨B,_,_⟩:=Cr (cx.E.ok T i H) hs;obtain⟨s,us,u,t,h,_⟩:=U4 (id:=id) d (by rw[I id Δ];exact D);have b:∃A c,a.eval x=.slice A (xs.length-lo) c:=by
   rw[j.der_inv u];rcases h.2 with⟨q,J⟩|⟨g,M,L,q,_⟩
   ·have p:xs.length=0:=J;subst q;exact⟨none,0,by rw[p,Nat.zero_sub];rfl⟩
   ·subst q;exact⟨_,_,rfl⟩
  obtain⟨A,c,b⟩:=b;refine⟨.int .i64 ((xs.length-lo:Nat):Int),?_,.int _ _⟩;simp only[execOp,v,resolve,invoke,builtin,Builtin.len_,Array.map_push,cJ,bD,map_nil,b];simp[run_underlying B,goInt,pure]
theorem zj6 {y:Operand}{ty:TypeId}{k:IntKind}{n:Int}{m:Nat}(p:o.op=.indexAddr T x y)(I:dok cx o=true)(j:A6 x=true)(h:A6 y=true)(C:σ.eval x=.der (.sub sz lo) id)(B:σ.eval y=.int k n)
  (H:σ.find id=some (.row ty sz xs)) (J:lkT cx.E.tab T=some i) (hs:i.shape=.slc e sz eb) (z:sz≠0) (G:n=(m:Int)) (hm:lo+m<xs.length):Ao cx o σ (.elt id sz (lo+m) 0) [id] [] :=
 Bc I λτ γ a w h1 L c=>by
  have d:=c.ev x j;rw[h1 x (by simp[p,Op.operands]),C]at d;have b:=c.ev y h;rw[h1 y (by simp[p,Op.operands]),B]at b;obtain⟨D,u,_⟩:=Cr (cx.E.ok T i J) hs;obtain⟨g,O,N,us,t,M,v,_⟩:=y1f (id:=id) c (by rw[L id Δ];exact H) d Ω;refine⟨.pointer (some ⟨g,(lo+m)*sz,none⟩),?_,.elt t (λQ s e=>by injection e with e;injection e with e _;simp only[aS]at e;rw[<-e];rfl)⟩;subst G;have q:m<xs.length-lo:=Ω
  simp[execOp,p,M,b.int_inv,Instr.indexAt,asIntOf,run_underlying D,Ej u z,q,pure,Addr.add_lit,Nat.add_mul]
theorem zo1 (z:Array Value)(n q j:Nat)(d:q<n)(c:j<z.size):(Builtin.zeroCells z n).toList.getD (q*z.size+j) undef=z.getD j undef:=by
 have b:q*z.size+j<n*z.size:=by
  have:(q+1)*z.size<=n*z.size:=aH _ d;rw[bZ]at this;omega
 have a:(q*z.size+j) % z.size=j:=by rw[Nat.mul_comm,Nat.mul_add_mod,Nat.mod_eq_of_lt c]
 rw[aC];simp[Builtin.zeroCells,b,a,bL,c]
variable {α:Type}
def clrL (l:List α)(lo:Nat)(z:α):List α:=l.take lo++aG (l.length-lo) z
theorem zx9 (l:List α)(lo:Nat)(z:α)(h:lo<=l.length):(clrL l lo z).length=l.length:=by simp[clrL];omega
theorem y73 {β:Type}(f:α->β)(l:List α)(lo:Nat)(z:α):clrL (l.map f) lo (f z)=(clrL l lo z).map f:=by simp[clrL]
theorem zvs {ie:TyI}(ho:o.op=.call { callee:=.builtin .clear,args:=#[x],argTypes:=#[T] })(hd:dok cx o=true)(bd:A6 x=true)(hx:σ.eval x=.der (.sub esz lo) id)(hl:σ.find id=some (.row e esz xs))(hT:lkT cx.E.tab T=some i)(hs:i.shape=.slc e esz eb)(he:lkT cx.E.tab e=some ie)(hz:esz≠0)
  (bc:Kg ie=true) (J:ie.zero.cells.all (·.oneCell')=true) (bk:lo<=xs.length):Ao cx o σ (.tup []) [id] [(id,.row e esz (clrL xs lo (Dg ie)))]:=by
 refine⟨λid e he=>Dd he,λτ h1 h2 a w Q K ⟨γ,z⟩ hK=>C9 (λc hc=>by rw[ho]at hc;cases hc) ?_⟩;have ak:=z.ev x bd;rw[h1 x (by simp[ho,Op.operands,Call.operands]),hx]at ak;obtain⟨hu,br,_⟩:=Cr (cx.E.ok T i hT) hs;have ap:=cx.E.ok e ie he;have bi:ie.sz=esz:=ap.cells.symm.trans br;obtain⟨am,bb⟩:=zek bc;have I:ie.zero.cells.size=esz:=bb.trans bi;have ay:(Dg ie).cells.length=esz:=by rw[am,aJ,aZ,I]
 have ba:∀v∈ie.zero.cells,v.oneCell'=true:=by
  rw[Array.all_eq_true_iff_forall_mem]at J;exact J
 have hf:τ.find id=some (.row e esz xs):=by rw[h2 id Δ];exact hl
 have p:=zx9 xs lo (Dg ie) bk;unfold Oper.wp;by_cases ax:lo<xs.length
 ·obtain⟨g,aa,H,us,C,ex,ac,t,hh,bz,bh,G,hr,L⟩:=y1f (id:=id) z hf ak ax;have ag:=t;obtain⟨bw,_⟩:=t;have B:(Builtin.zeroCells ie.zero.cells (xs.length-lo)).toList.length=(xs.length-lo)*esz:=by simp[Builtin.zeroCells,I]
  have bu:lo*esz+(xs.length-lo)*esz=xs.length*esz:=by rw[<-Nat.add_mul];congr 1;omega
  have bs:xs.length*esz<=aa*esz:=aH _ ac;have ad:∀v∈(Builtin.zeroCells ie.zero.cells (xs.length-lo)).toList,v.oneCell'=true:=λv hv=>by
   obtain⟨q,hq,rfl⟩:=aQ.1 hv;rw[B]at hq;have ao:0<ie.zero.cells.size:=Ω
   have ar:=Nat.mod_lt q ao;simp only[Builtin.zeroCells,cE,aV,Array.getElem_toList,Array.getElem_range];rw[getElem!_pos ie.zero.cells _ ar];exact ba _ (Array.getElem_mem _)
  have D:=run_storeCells_at cx.P g (lo*esz) e (Builtin.zeroCells ie.zero.cells (xs.length-lo)).toList 0 H w hh (by rw[B];omega) ad;simp only[cA,B]at D;generalize ai:(Builtin.zeroCells ie.zero.cells (xs.length-lo)).toList=news at D B ad;generalize U:(H.toList.take (lo*esz)++news++H.toList.drop (lo*esz+(xs.length-lo)*esz)).toArray=d at D;have aq:xs.length-lo≠0:=Ω
  have af:(Builtin.clear_ #[T] 0 #[a.eval x]).run cx.P w=.ok (.tuple #[]) (w.setRow g d):=by
   obtain⟨m,hm⟩:∃m,xs.length-lo=m+1:=⟨xs.length-lo-1,Ω⟩;rw[hm]at ai ex;simp only[Builtin.clear_,ex];simp[run_underlying hu,ap.zeroV w,ai,D,pure]
  have bg:∀ty,(Builtin.clear_ #[T] ty #[a.eval x])=(Builtin.clear_ #[T] 0 #[a.eval x]):=λty=>rfl
  have aj:(execOp a.eval o).run cx.P w=.ok (.value (.tuple #[])) (w.setRow g d):=by
   simp only[execOp,ho,resolve,invoke,builtin,cJ,bD,map_nil,bg,Sem.run_bind,af,Result.andThen_ok,Sem.run_pure]
  rw[aj];have az:=setRow_heap w g H d e (0,0) hh;have ab:∀q,q≠g->(w.setRow g d).heap[q]? = w.heap[q]? := λq hq=>setRow_other w g q _ hq
  have al:w.heap.size<=(w.setRow g d).heap.size:=Δ
  have bp:w.grownBy (w.setRow g d) (some g):=⟨rfl,rfl,rfl,al,λk W aq=>ab k (λe=>aq (by rw[e]))⟩;have bq:w.drawn<=(w.setRow g d).drawn:=aD _;have N:own γ g:=own.mk C;have Y:∀b,Sg cx.S0 cx.w0.heap.size γ b->b≠g:=λb X e=>by
   subst e;rcases X with⟨_,h⟩|⟨_,h⟩
   ·have:=(z.ge b N).1.1;omega
   ·exact h N
  generalize w.setRow g d=w' at *;have an:d.toList.take (xs.length*esz)=us.take (lo*esz)++news:=by
   rw[<-U];simp only[<-bh];rw[toList_toArray,take_append,cC Ψ];have:(List.take (lo*esz) H.toList++news).length=xs.length*esz:=by simp[B];omega
   rw[this,bY,take_zero,append_nil,take_take,Nat.min_eq_left Ω]
  refine hK _ _ (zgj (v:=.slice (some ⟨g,0,none⟩) xs.length aa) (us':=us.take (lo*esz)++news) z (λ_=>bq) C (C5 hd) bp ?_ (λk W=>?_) (λk W j M=>?_) (λu hu=>?_) (.tup #[] rfl (λj M=>absurd M Δ)))
  ·rw[p];rcases ag.2 with⟨h,_⟩|⟨g',bv,cu,bf,bt,_,_,bj,_,_⟩
   ·cases h
   ·injection bf with Z e2 e3
    injection Z with Z
    injection Z with Z _ _
    subst Z;subst e3;refine⟨by simp[B];omega,aK ⟨g,aa,d,rfl,bt,az,ac,bj,?_,an⟩⟩;rw[<-U];simp[B];omega
  ·rw[p]at W;simp only[clrL,bO];split
   ·rw[getElem_take];exact G k _
   ·rw[aN];exact ay
  ·rw[p]at W;have aw:(us.take (lo*esz)).length=lo*esz:=Ψ
   by_cases bl:k<lo
   ·have O:(clrL xs lo (Dg ie))[k]'(by rw[p];exact W)=xs[k]:=by
     simp only[clrL,bO];rw[dif_pos Ψ,getElem_take]
    rw[O]at M;have bn:j<esz:=by rw[<-G k W];exact M
    have av:k*esz+j<lo*esz:=by
     have:(k+1)*esz<=lo*esz:=aH _ bl;rw[bZ]at this;omega
    have Z:(us.take (lo*esz)++news).getD (k*esz+j) undef=us.getD (k*esz+j) undef:=by
     rw[aC,getElem?_append_left Ω,getElem?_take_of_lt av,<-aC]
    rw[Z];simp only[O];exact(hr k W j M).mono al (λb X ax=>⟨ab b (Y b X),aL X,λe=>Y b X (by injection e with e;exact e.symm)⟩)
   ·have O:(clrL xs lo (Dg ie))[k]'(by rw[p];exact W)=Dg ie:=by
     simp only[clrL,bO];rw[dif_neg Ψ,aN]
    rw[O]at M;have bn:j<esz:=by rw[<-ay];exact M
    have bx:lo*esz<=k*esz:=aH _ Ω;have Z:(us.take (lo*esz)++news).getD (k*esz+j) undef=ie.zero.cells.getD j undef:=by
     rw[aC,getElem?_append_right Ω,aw,<-aC,<-ai];have:=zo1 ie.zero.cells (xs.length-lo) (k-lo) j Ω Ω;rw[<-this,I,Nat.sub_mul];congr 1;omega
    rw[Z];simp only[O,am,aV];have bm:j<ie.zero.cells.size:=Ω
    have:ie.zero.cells.getD j undef=ie.zero.cells[j]:=by simp[bL,bm]
    rw[this];simpa using Oq _ _ _ (ie.zero.cells[j])
  ·rcases mem_append.1 hu with hu|hu
   ·exact L u (mem_of_mem_take hu)
   ·exact ad u hu
 ·have au:lo=xs.length:=Ω
  have aj:(execOp a.eval o).run cx.P w=.ok (.value (.tuple #[])) w:=by
   obtain⟨s,us,C,ah,t,_⟩:=U4 (id:=id) z hf;have ae:∃A c,a.eval x=.slice A 0 c:=by
    rw[ak.der_inv C];rcases t.2 with⟨hv,h0⟩|⟨g,aa,H,hv,_⟩
    ·subst hv;exact⟨none,0,rfl⟩
    ·subst hv;exact⟨_,_,by show Value.slice _ (xs.length-lo) _=_;rw[au,bY]⟩
   obtain⟨A,c,ae⟩:=ae;simp only[execOp,ho,resolve,invoke,builtin,cJ,bD,map_nil,Builtin.clear_,ae];cases A<;>simp[run_underlying hu,pure]
  rw[aj];have bo:clrL xs lo (Dg ie)=xs:=by simp[clrL,au]
  rw[bo]at hK;obtain⟨s,us,C,ah,t,G,hr,L⟩:=U4 (id:=id) z hf;have Y:∀b,Sg cx.S0 cx.w0.heap.size γ b->s.ownBlock≠some b:=λb X e=>by
   have N:own γ b:=own.mk (by rw[C,e]);rcases X with⟨_,h⟩|⟨_,h⟩
   ·have:=(z.ge b N).1.1;omega
   ·exact h N
  exact hK _ _ (zgj (v:=s) (us':=us) z (λ_=>aD _) C (C5 hd) (World.grownBy.refl _ _) t G (λk W j M=>(hr k W j M).mono (aD _) (λb X _=>⟨rfl,aL X,Y b X⟩)) L (.tup #[] rfl (λj M=>absurd M Δ)))
end
section
variable {P:Program} {w:World} {S:Nat->Prop}
end
theorem con0 (x:Value)(vs:Array Value):(#[x]++vs).getD 0 undef=x:=by
 rw[aA,aO Δ];rfl
variable {w:World}{ty sz n:Nat}{s:Value}
theorem I9 {B:Nat}{vs:List Value}(h:w.ownsRow B ty sz s n vs):s.ownBlock=B8 s/\Cq s=[]:=by
 rcases h.2 with⟨rfl,_⟩|⟨g,b,a,rfl,_⟩<;>exact⟨rfl,rfl⟩
theorem Ey {b:Nat}(h:s.ownBlock=B8 s)(a:Cq s=[]):b∈blks (some (s.ownBlock,s)) ↔ B8 s=some b:=by
 simp[blks,a,h]
section
variable {cx:Cx} {o:Oper} {σ:AS}
theorem zwf {d g id:Nat}{e j c:Ent}(b:lkE [(d,e),(g,j)] id=some c):id∈[d,g]:=by
 simp only[lkE]at b;cases h:aE d id with
 |true=>simp[aB h]
 |false =>
  rw[h]at b;cases a:aE g id with
  |true=>simp[aB a]
  |false=>rw[a]at b;cases b
theorem zdn {d a:Nat}{e g:Ent}(h:d≠a)(i:Nat):lkE [(d,e),(a,g)] i=if i=d then some e else if i=a then some g else none:=by
 simp only[lkE];by_cases h1:i=d
 ·subst h1;simp
 ·rw[if_neg h1];have:aE d i=false:=by cases b:aE d i with|true=>exact absurd (aB b).symm h1|false=>rfl
  rw[this];by_cases c:i=a
  ·subst c;simp
  ·rw[if_neg c];have:aE a i=false:=by cases b:aE a i with|true=>exact absurd (aB b).symm c|false=>rfl
   rw[this]
theorem zt1 (vs:Array Value)(x:Value)(p j:Nat)(a:p<vs.size):(vs.setIfInBounds p x).getD j undef=if j=p then x else vs.getD j undef:=by
 simp only[aA,Array.getElem?_setIfInBounds];by_cases h:j=p
 ·subst h;rw[if_pos rfl,if_pos a,if_pos rfl];rfl
 ·rw[if_neg h,if_neg (λe=>h e.symm)]
theorem y66 {S:Nat->Prop}{B:Nat}{v:Value}{xs:List AV}(h:NRep w S B v (.row ty sz xs)):∃us,w.ownsRow B ty sz v xs.length us:=by
 obtain⟨_,us,h,_⟩:=h;exact⟨us,h⟩
end
def AV.leafId:AV->Option Nat |.row i=>some i |.ptr i _=>some i |.elt i _ _ _=>some i |.der _ i=>some i |.cont _ i=>some i |_=>none
def AV.rp0 (r:Nat)(src:AV->Bool)(tgt x:AV):AV:=match x.leafId with
 |some i=>match aE i r with
  |true=>match src x with
   |true=>tgt
   |false=>.any
  |false=>x
 |none=>x
mutual
def AV.rp (r:Nat)(src:AV->Bool)(tgt:AV):AV->AV |.fn f cap=>.fn f (AV.rpL r src tgt cap) |.yld l T cap=>.yld l T (AV.rpL r src tgt cap) |.agg cs=>.agg (AV.rpL r src tgt cs) |.tup cs=>.tup (AV.rpL r src tgt cs) |x=>AV.rp0 r src tgt x
def AV.rpL (r:Nat)(src:AV->Bool)(tgt:AV):List AV->List AV |[]=>[] |x::l=>AV.rp r src tgt x::AV.rpL r src tgt l
end
section
variable {r:Nat} {src:AV->Bool} {tgt:AV}
theorem AV.rpL_length (l:List AV):(AV.rpL r src tgt l).length=l.length:=by
 induction l with
 |nil=>rfl
 |cons x l ih=>simp[AV.rpL,ih]
theorem AV.rpL_at (l:List AV)(i:Nat)(hi:i<l.length):(AV.rpL r src tgt l)[i]'(by rw[AV.rpL_length];exact hi)=AV.rp r src tgt l[i]:=by
 induction l generalizing i with
 |nil=>simp at hi
 |cons x l ih =>
  cases i with
  |zero=>rfl
  |succ i=>exact ih i (by simpa using hi)
theorem Rep.rp {S:Nat->Prop}{γ γ':Gam}(d:∀i x,i≠r->γ i=some x->γ' i=some x)(B:∀x v,src x=true->x.leafId=some r->Rep w S γ x v->Rep w S γ' tgt v){av:AV}{v:Value}(h:Rep w S γ av v):Rep w S γ' (AV.rp r src tgt av) v:=by
 have leaf:∀{x:AV} {v:Value} {i:Nat},x.leafId=some i->Rep w S γ x v->(∀h:i≠r,Rep w S γ' x v)->Rep w S γ' (AV.rp0 r src tgt x) v:=λ{x v i} I h N=>by
  simp only[AV.rp0,I];cases t:aE i r with
  |true =>
   have:=aB t;subst this;simp only;cases hs:src x with
   |true=>exact B x v hs I h
   |false=>exact .any _
  |false=>exact N (aR t)
 induction h with
 |any=>exact .any _
 |int=>exact .int _ _
 |bool=>exact .bool _
 |str=>exact .str _
 |nilp=>exact .nilp
 |nils=>exact .nils
 |nilf=>exact .nilf
 |@ptr γ id off v D h m=>exact leaf rfl (.ptr h m) (λhi=>.ptr (d _ _ hi h) m)
 |@elt γ id sz k j v D h m=>exact leaf rfl (.elt h m) (λhi=>.elt (d _ _ hi h) m)
 |@der γ W id v D h m=>exact leaf rfl (.der h m) (λhi=>.der (d _ _ hi h) m)
 |@row γ id v D h m=>exact leaf rfl (.row h m) (λhi=>.row (d _ _ hi h) m)
 |mapv ps0 M g es clock t H U Q q O m L J=>exact .mapv ps0 M g es clock t H U Q q O m
 |mapn=>exact .mapn
 |slen A n c=>exact .slen A n c
 |@cont γ n id v D h m q=>exact leaf rfl (.cont h m q) (λhi=>.cont (d _ _ hi h) m q)
 |sl A c cell G C t z h1 ih=>exact .sl A c cell G C t z h1
 |ref b off cell H t G z h1 ih=>exact .ref b off cell H t G z h1
 |fn vs q u ih =>
  exact .fn vs (by rw[q,AV.rpL_length]) (λi p=>by
   have a:=p;rw[AV.rpL_length]at a;rw[AV.rpL_at _ i a];exact ih i a d B leaf)
 |yld u ih =>
  exact .yld (λi p=>by
   have a:=p;rw[AV.rpL_length]at a;rw[AV.rpL_at _ i a];exact ih i a d B leaf)
 |agg vs q u h1 ih =>
  exact .agg vs (by rw[q,AV.rpL_length]) (λi p=>by
   have a:=p;rw[AV.rpL_length]at a;rw[AV.rpL_at _ i a];exact ih i a d B leaf) h1
 |tup vs q u ih =>
  exact .tup vs (by rw[q,AV.rpL_length]) (λi p=>by
   have a:=p;rw[AV.rpL_length]at a;rw[AV.rpL_at _ i a];exact ih i a d B leaf)
end
def Ent.rp (r:Nat)(src:AV->Bool)(tgt:AV):Ent->Ent |.box ty cs=>.box ty (AV.rpL r src tgt cs) |e=>e
def AS.rpAll (σ:AS)(r:Nat)(src:AV->Bool)(tgt:AV)(e:Ent):AS:=⟨σ.tm.map λp=>(p.1,AV.rp r src tgt p.2),(r,e)::σ.me.map λp=>(p.1,p.2.rp r src tgt)⟩
theorem LeX.rpAll (r:Nat)(src:AV->Bool)(tgt:AV)(e D:Ent)(Y:σ.find r=some e)(N:∀ty cs,D≠.box ty cs)
  (H:∀(cx:Cx) (γ:Gam) (a:Act) (w:World) (d:Option (Option Nat×Value)),StG cx γ σ a w->γ r=some d->Bm w (Sg cx.S0 cx.w0.heap.size γ) γ cx.w0.heap.size d e->∃q,(∀b,b∈blks q->b∈blks d)/\∀S':Nat->Prop,(∀b,Sg cx.S0 cx.w0.heap.size γ b->S' b)->(∀b,b∈blks d->b ∉ blks q->S' b) ->
    Bm w S' G0 cx.w0.heap.size q D/\∀γ' x v,γ' r=some q->src x=true->x.leafId=some r->Rep w S' γ x v->Rep w S' γ' tgt v):LeX E nt σ (σ.rpAll r src tgt D):=λcx hE hn a w ⟨γ,h⟩=>by
 have L:=h.me r;rw[Y]at L;obtain⟨d,J,I⟩:=L;obtain⟨q,t,H⟩:=H cx γ a w d h J I;have p:∀b,own (γ.set r q) b->own γ b:=λb ⟨i,s,hi,hm⟩=>by
  by_cases c:i=r
  ·subst c;rw[aP]at hi;injection hi with hi;subst hi;exact⟨_,_,J,t b hm⟩
  ·rw[aU _ _ _ c]at hi;exact⟨i,s,hi,hm⟩
 have Q:∀b,Sg cx.S0 cx.w0.heap.size γ b->Sg cx.S0 cx.w0.heap.size (γ.set r q) b:=λb m=>m.elim aL (λ⟨h1,U⟩=>aK ⟨h1,λM=>U (p b M)⟩)
 obtain⟨H1,H2⟩:=H (Sg cx.S0 cx.w0.heap.size (γ.set r q)) Q (λb m O=>aK ⟨(h.ge b ⟨_,_,J,m⟩).1,λ⟨i,s,hi,hm⟩=>by
  by_cases c:i=r
  ·subst c;rw[aP]at hi;injection hi with hi;subst hi;exact O hm
  ·rw[aU _ _ _ c]at hi;exact c (h.inj _ _ _ _ _ hi J hm m)⟩)
 have mv:∀{av v},Rep w (Sg cx.S0 cx.w0.heap.size γ) γ av v->Rep w (Sg cx.S0 cx.w0.heap.size (γ.set r q)) (γ.set r q) (AV.rp r src tgt av) v:=λX =>
  (X.mono (aD _) (λb m _=>⟨rfl,Q b m⟩)).rp (src:=src) (λi x hi G=>by rw[aU _ _ _ hi];exact G) (λx v hs Z G=>H2 _ x v (aP _ _ _) hs Z G)
 refine⟨γ.set r q,λu=>?_,λi=>?_,λi j b s s' hi B mi mj=>?_,λb m=>h.ge b (p b m),h.below,h.size,h.defers.gam p,h.gh,λb m=>by obtain⟨f2,f3,f4⟩:=h.fr b m;exact⟨λM=>f2 (p b M),f3,f4⟩,h.dr⟩
 ·have e:(σ.rpAll r src tgt D).get u=AV.rp r src tgt (σ.get u):=y36 _ rfl _ _;rw[e];exact mv (h.tm u)
 ·by_cases hi:r=i
  ·subst hi;have e:(σ.rpAll r src tgt D).find r=some D:=by simp[AS.rpAll,aM,lkE]
   rw[e];exact⟨q,aP _ _ _,H1.free N⟩
  ·have e:(σ.rpAll r src tgt D).find i=(σ.find i).map (Ent.rp r src tgt):=by
    unfold AS.rpAll aM;simp only[lkE];cases m:aE r i with
    |true=>exact absurd (aB m) hi
    |false=>exact y38 _ _ _
   rw[e,aU _ _ _ (Ne.symm hi)];have:=h.me i;cases W:σ.find i with
   |none=>rw[W]at this;exact this
   |some en =>
    rw[W]at this;obtain⟨x,G,I⟩:=this;have heq:∀en:Ent,(∀ty cs,en≠.box ty cs)->Bm w (Sg cx.S0 cx.w0.heap.size γ) γ cx.w0.heap.size x en->Bm w (Sg cx.S0 cx.w0.heap.size (γ.set r q)) (γ.set r q) cx.w0.heap.size x en:=λen m I =>
     (I.move (γ':=γ) (aD _) (λb m _=>⟨rfl,Q b m⟩) (λid d h=>aL h) (λ_ _=>rfl)).free m
    cases en with
    |box ty cs =>
     obtain⟨g,vs,h1,U,h3,h4,h5⟩:=I;exact⟨x,G,g,vs,h1,U,by rw[h3,AV.rpL_length],λi hi=>by
      have C:=hi;rw[AV.rpL_length]at C;rw[AV.rpL_at _ i C];exact mv (h4 i C),h5⟩
    |_=>exact⟨x,G,heq _ (λty cs h=>by cases h) I⟩
 ·by_cases c:i=r
  ·by_cases z:j=r
   ·rw[c,z]
   ·subst c;rw[aP]at hi;injection hi with hi
    subst hi;rw[aU _ _ _ z]at B;exact h.inj _ _ _ _ _ J B (t b mi) mj
  ·rw[aU _ _ _ c]at hi;by_cases z:j=r
   ·subst z;rw[aP]at B;injection B with B
    subst B;exact h.inj _ _ _ _ _ hi J mi (t b mj)
   ·rw[aU _ _ _ z]at B;exact h.inj _ _ _ _ _ hi B mi mj
open Go.RowKit
section
variable {α β κ ν:Type}
def nle (n:Int)(len:Nat)(k:Nat->Option β):Option β:=if 0<=n/\n.toNat<=len then k n.toNat else none
def gle (a b:Nat)(x:Option β):Option β:=if a<=b then x else none
def clr (l:List α)(lo:Nat)(z:α)(k:List α->Option β):Option β:=if lo<=l.length then k (clrL l lo z)else none
def encN (ek:κ->AV)(er:ν->AV)(ty sz:Nat)(p:κ×List ν):AV×NE:=(ek p.1,.row ty sz (p.2.map er))
end
section
variable {α β κ ν:Type} {E:Env} {nt:Nat} {o:Oper} {σ:AS} {K:OpK}
variable {k:Nat->Option β}{r:β}{T id e esz eb:Nat}{x:Operand}{i:TyI}{xs:List AV}
theorem OpX.sub {n:Int}{y:Operand}{kd:IntKind}(a:nle n xs.length k=some r)(q:o.op=.slice T x (some y) none none)(z:dokN E nt o.dst=true)(c:A6 x=true)(b:A6 y=true)(p:σ.eval x=.row id)(j:σ.eval y=.int kd n)
  (B:lkT E.tab T=some i) (hs:i.shape=.slc e esz eb) (h:aE esz 0=false) (u:σ.find id=some (.row ty esz xs)) (v:∀m,k m=some r->K (.der (.sub esz m) id) [id] []):OpX E nt o σ K:=by
 unfold nle at a;split at a
 ·rename_i t;exact .mk _ _ _ (λcx g d=>zvg (lo:=n.toNat) q (Aq z g d) c b p (by rw[j];congr 1;omega) (by rw[g];exact B) hs (nbne h) u t.2) (v _ a)
 ·cases a
variable {lo:Nat}
theorem OpX.lns {c:Option β}(a:gle lo xs.length c=some r)(m:o.op=.call { callee:=.builtin .len,args:=#[x],argTypes:=#[T] })(t:dokN E nt o.dst=true)(b:A6 x=true)(j:σ.eval x=.der (.sub sz lo) id)(p:σ.find id=some (.row ty sz xs))(u:lkT E.tab T=some i)(hs:i.shape=.slc e esz eb)
  (q:c=some r->K (.int .i64 ((xs.length-lo:Nat):Int)) [id] []):OpX E nt o σ K:=by
 unfold gle at a;split at a
 ·rename_i g;exact .mk _ _ _ (λcx h d=>y1o m (Aq t h d) b j p (by rw[h];exact u) hs g) (q a)
 ·cases a
theorem OpX.ixs {n:Int}{y:Operand}{kd:IntKind}(B:nat n (xs.length-lo) k=some r)(p:o.op=.indexAddr T x y)(v:dokN E nt o.dst=true)(b:A6 x=true)(a:A6 y=true)(j:σ.eval x=.der (.sub sz lo) id)(h:σ.eval y=.int kd n)
  (t:σ.find id=some (.row ty sz xs)) (z:lkT E.tab T=some i) (hs:i.shape=.slc e sz eb) (g:aE sz 0=false) (u:∀m,k m=some r->K (.elt id sz (lo+m) 0) [id] []):OpX E nt o σ K:=by
 have:=NatX.o (K:=λm=>lo+m<xs.length->K (.elt id sz (lo+m) 0) [id] []) B (λm hm _=>u m hm);cases this with
 |mk m q hm k=>exact .mk _ _ _ (λcx d c=>zj6 p (Aq v d c) b a j h t (by rw[d];exact z) hs (nbne g) q Ω) (k Ω)
theorem OpX.clr (enc:α->AV){l:List α}{z:α}{k:List α->Option β}{ie:TyI}(c:Proofs.YthbogefcfhmpgaaGreat.clr l lo z k=some r)(t:o.op=.call { callee:=.builtin .clear,args:=#[x],argTypes:=#[T] })(C:dokN E nt o.dst=true)(g:A6 x=true)(q:σ.eval x=.der (.sub esz lo) id)(u:σ.find id=some (.row e esz (l.map enc)))
  (D:lkT E.tab T=some i) (hs:i.shape=.slc e esz eb) (B:lkT E.tab e=some ie) (p:aE esz 0=false) (d:Kg ie=true) (b:D8 ie.zero.cells.toList=true) (a:SubL (Dg ie).cells (enc z).cells) (v:∀l',k l'=some r->K (.tup []) [id] [(id,.row e esz (l'.map enc))]):OpX E nt o σ K:=by
 unfold Proofs.YthbogefcfhmpgaaGreat.clr at c;split at c
 ·rename_i j;refine .mk _ _ _ (λcx m h=>?_) (v _ c);have h1:=zvs (cx:=cx) t (Aq C m h) g q u (by rw[m];exact D) hs (by rw[m];exact B) (nbne p) d (Fk b) (by rw[aJ];exact j);refine h1.weak (.cons _ (.row _ _ ?_) .nil);rw[<-y73];unfold clrL;exact(SubR.refl _).append (.replicate a _)
 ·cases c
variable [DecidableEq κ]
omit [DecidableEq κ] in
end
theorem Born.idx {es:Array MapEntry}(h:∀j (h:j<es.toList.length),(es.toList[j]).born=j)(b:es.size=n):Born es n:=by
 have e:es.toList.map (·.born)=range n:=by
  apply ext_getElem
  ·simp[b]
  ·intro i c d;simp only[aV,getElem_range];exact h i (by simpa using c)
 refine⟨by rw[e];exact nodup_range,λx a=>?_⟩;have:x.born∈es.toList.map (·.born):=mem_map.2 ⟨x,a,rfl⟩;rw[e]at this;exact cG.1 this
section
variable {α β κ ν:Type} {E:Env} {nt:Nat}
variable {R:Exit->AS->Prop} {K:List Bu}
end
attribute [irreducible] nle gle clr    
open Go.RowKit
def idA (a:AV):AV:=a
theorem U5 (l:List AV):List.map idA l=l:=by induction l with
 |nil=>rfl
 |cons x l ih=>rw[bD,ih];rfl
section
variable {α β:Type}
def idxD (d:AV->Option α)(l:List AV)(n:Int)(k:α->Option β):Option β:=if 0<=n then(match l[n.toNat]? with|some a=>(match d a with|some y=>k y|none=>none)|none=>none)else none
theorem IdxX.oD {enc:α->AV}{d:AV->Option α}{l:List AV}{n:Int}{K:AV->Prop}{k:α->Option β}{r:β}(h:idxD d l n k=some r)(g:∀a y,d a=some y->a=enc y)(c:∀y,k y=some r->K (enc y)):IdxX (l.map idA) n K:=by
 unfold idxD at h;split at h
 ·rename_i m;split at h
  ·rename_i a j;split at h
   ·rename_i y b;refine .mk n.toNat (enc y) Ω ?_ (c y h);rw[U5,j,g a y b]
   ·cases h
  ·cases h
 ·cases h
end
section
variable {α β V:Type} {E:Env} {nt:Nat} {R:Exit->AS->Prop} {K:List Bu}
def jon (F:V->Option β)(x:Option β):Option β:=x
variable {A:Code}
theorem AW.meet1 {J:AS->Prop}(h1:AW E nt (Cv J (AW E nt R K)) [.code A] .normal σ)(g:∀τ,J τ->AW E nt R K .normal τ):AW E nt R (.code A::K) .normal σ :=
 ⟨λcx b a=>bJ (h1.out cx b a) (λe d c=>by cases e<;>first|exact(g _ c).out cx b a|exact AW.out c cx b a)⟩
theorem AW.meet2 {J:AS->Prop}{B:Code}(h1:AW E nt (Cv J (AW E nt R K)) [.code A,.code B] .normal σ)(h:∀τ,J τ->AW E nt R K .normal τ):AW E nt R (.code A::.code B::K) .normal σ :=
 ⟨λcx c b=>bJ (h1.out cx c b) (λe g a=>by
  cases e with
  |normal=>exact bJ a (λe d a=>by cases e<;>first|exact(h _ a).out cx c b|exact AW.out a cx c b)
  |_=>exact AW.out a cx c b)⟩
variable {F:V->Option β}
theorem AW.joinO1 {S:V->AS}{x:Option β}{r:β}{C:Code}(h:jon F x=some r)(h1:x=some r->AW E nt (Cv (λa=>∃v,F v=some r/\LeX E nt a (S v)) (AW E nt R (.code C::K))) [.code A] .normal σ)(d:∀v,F v=some r->AW E nt R (.code C::K) .normal (S v)):AW E nt R (.code A::.code C::K) .normal σ :=
 AW.meet1 (h1 h) (λτ ⟨v,b,c⟩=>bU c (d v b))
theorem AW.joinO2 {S:V->AS}{x:Option β}{r:β}{B C:Code}(h:jon F x=some r)(h1:x=some r->AW E nt (Cv (λa=>∃v,F v=some r/\LeX E nt a (S v)) (AW E nt R (.code C::K))) [.code A,.code B] .normal σ)(d:∀v,F v=some r->AW E nt R (.code C::K) .normal (S v)):AW E nt R (.code A::.code B::.code C::K) .normal σ :=
 AW.meet2 (h1 h) (λτ ⟨v,b,c⟩=>bU c (d v b))
theorem Ay (F:V->Option β)(x:Option β):jon F x=x:=rfl
end
section
variable {β:Type}
def natc (n:Int)(k:Nat)(x y:Option β):Option β:=if n=(k:Int)then x else y
theorem NatX.oS {n:Int}{len:Nat}{K:Nat->Prop}{k:Nat}{x y:Option β}{r:β}(h:natc n k x y=some r)(a:cN k len=true)(b:x=some r->K k)(h1:y=some r->NatX n len K):NatX n len K:=by
 unfold natc at h;split at h
 ·rename_i e;exact .mk k e (aF a) (b h)
 ·exact h1 h
theorem Ot (n:Int)(k:Nat)(x y:Option β):natc n k x y=if n=(k:Int)then x else y:=rfl
end
attribute [irreducible] idxD jon natc
open Go.RowKit
def Dw:AV->Bool |.row _=>true |_=>false
def nstV (s:Value)(vs:Array Value):Option (Option Nat×Value):=some (none,.tuple (#[s]++vs))
variable {vs:Array Value}
theorem mem_nstV {b:Nat}:b∈blks (nstV s vs) ↔ B8 s=some b\/∃j,B8 (vs.getD j undef)=some b:=by
 simp only[nstV,blks,Option.toList_none,nil_append,Cq,Array.toList_append,filterMap_append,mem_append];constructor
 ·rintro (h|h)
  ·left;obtain⟨v,c,g⟩:=bH.1 h;have:v=s:=by simpa using c
   rw[<-this];exact g
  ·right;obtain⟨v,c,g⟩:=bH.1 h;obtain⟨j,a,rfl⟩:=aQ.1 c;have d:j<vs.size:=by simpa using a
   exact⟨j,by simpa[bL,d]using g⟩
 ·rintro (h|⟨j,h⟩)
  ·left;exact bH.2 ⟨s,Δ,h⟩
  ·right;by_cases a:j<vs.size
   ·exact bH.2 ⟨vs[j],Δ,by simpa[bL,a]using h⟩
   ·simp[bL,a,undef,B8]at h
variable {γ:Gam}{id:Nat}{vs':Array Value}
theorem y2w (h:γ id=some (nstV s vs')):Turn γ id (nstV s vs) :=
 ⟨_,_,rfl,h,rfl,rfl,λb a=>by cases b<;>first|(cases a;done)|exact⟨rfl,by simp only[cI,con0]⟩⟩
section
variable {E:Env} {nt:Nat}
theorem LeX.nst (r ety sz:Nat){m:Nat}(hr:σ.find r=some (.row ty 1 (aG m .nils))):LeX E nt σ (σ.rpAll r Dw (.cont m r) (.nest ty (aG m (.row ety sz [])))):=by
 refine LeX.rpAll r Dw (.cont m r) _ _ hr (λty cs h=>by cases h) (λcx γ a w d aa hd he=>?_);obtain⟨s,us,W,H,c,Z,Q,I⟩:=he;subst W;obtain⟨L,J⟩:=I9 c;rw[cH]at c;have O:us.length=m:=by have:=c.1;omega
 have q:∀k,k<m->us.getD k undef=.slice none 0 0:=λk p=>by
  have:=Q k (by simpa using p) 0 (by simp[bB]);simp only[aN,bB,bF,Nat.mul_one,cA]at this;exact this.nils_inv
 have B:∀k,us.toArray.getD k undef=us.getD k undef:=λk=>by simp[aA,aC]
 have z:∀k b,B8 (us.toArray.getD k undef)≠some b:=λk b C=>by
  rw[B]at C;by_cases p:k<m
  ·rw[q k p]at C;simp[B8]at C
  ·rw[aC,getElem?_eq_none Ω]at C;simp[undef,B8]at C
 refine⟨nstV s us.toArray,λb C=>?_,λS' hS ab=>⟨⟨s,us.toArray,rfl,H,by simp[O],⟨us,by rw[cH];exact c,I,λk p _=>(B k).symm⟩,λk p=>?_,λi j b hi=>absurd hi (z i b),λi b _=>z i b⟩,λγ' x v D G Y hv=>?_⟩⟩
 ·rcases mem_nstV.1 C with h|⟨j,h⟩
  ·exact(Ey L J).2 h
  ·exact absurd h (z j b)
 ·have U:k<m:=by simpa using p
  rw[aN,B,q k U];exact⟨rfl,[],World.ownsRow_nil _ _ _ _,λk p=>absurd p Δ,λk p=>absurd p Δ,λu hu=>by cases hu⟩
 ·have M:x=.row r:=by
   cases x with
   |row i=>simp only[AV.leafId,aS]at Y;rw[Y]
   |_=>simp[Dw]at G
  subst M;have N:v=s:=hv.row_inv hd (Gp H);subst N;refine .cont D (λg s' e=>?_) ?_
  ·injection e with e
   injection e with _ e
   subst e;simp only[cI,con0]
  ·rcases c.2 with⟨t,h0⟩|⟨g,X,ac,t,_⟩
   ·exact⟨none,0,by rw[t,h0],λh=>by omega⟩
   ·exact⟨_,X,t,λ_=>⟨g,0,rfl⟩⟩
end
section
variable {cx:Cx} {o:Oper} {σ:AS}
variable {T:Nat}{x:Operand}{i:TyI}
theorem y06 {e esz eb:Nat}(j:o.op=.call { callee:=.builtin .len,args:=#[x],argTypes:=#[T] })(u:dok cx o=true)(d:A6 x=true)(m:σ.eval x=.cont n id)(v:lkT cx.E.tab T=some i)(hs:i.shape=.slc e esz eb):Ao cx o σ (.int .i64 (n:Int)) [] [] :=
 Bc u λτ γ a w h1 B g=>by
  have b:=g.ev x d;rw[h1 x (by simp[j,Op.operands,Call.operands]),m]at b;obtain⟨p,_,_⟩:=Cr (cx.E.ok T i v) hs;cases b with
  |cont h z t =>
   obtain⟨A,c,q,_⟩:=t;exact⟨.int .i64 (n:Int),by simp[execOp,j,resolve,invoke,builtin,Builtin.len_,q,run_underlying p,goInt,pure],.int _ _⟩
theorem zht {e eb m:Nat}{y:Operand}{k:IntKind}(u:o.op=.indexAddr T x y)(I:dok cx o=true)(t:A6 x=true)(q:A6 y=true)(C:σ.eval x=.cont n id)(B:σ.eval y=.int k (m:Int))(J:lkT cx.E.tab T=some i)(hs:i.shape=.slc e 1 eb)(hm:m<n):Ao cx o σ (.der (.nelt m) id) [] [] :=
 Bc I λτ γ a w h1 M j=>by
  have p:=j.ev x t;rw[h1 x (by simp[u,Op.operands]),C]at p;have d:=j.ev y q;rw[h1 y (by simp[u,Op.operands]),B]at d;obtain⟨G,v,_⟩:=Cr (cx.E.ok T i J) hs;cases p with
  |cont h D H =>
   obtain⟨A,c,z,L⟩:=H;obtain⟨b,off,rfl⟩:=L Ω;refine⟨.pointer (some ⟨b,off+m,none⟩),?_,.der h (λg s e=>⟨by cases s<;>rfl,?_⟩)⟩
   ·simp[execOp,u,z,d.int_inv,Instr.indexAt,asIntOf,run_underlying G,Ej v (by omega:(1:Nat)≠0),hm,pure,Addr.add_lit]
   ·have:=D g s e;rw[z]at this;cases s with
    |tuple vs =>
     simp only[cI]at this ⊢;rw[<-this]
    |agg vs =>
     simp only[cI]at this ⊢;rw[<-this]
    |_=>simp[cI,undef]at this
theorem zyq {γ':Gam}{τ:AS}{a:Act}{w':World}{dst:Option Nat}{q:Nat}{qs:List NE}{e:Ent}{av:AV}{v:Value}(u:StG cx γ τ a w)(hd:∀x,dst=some x->cx.E.np<=x/\x<cx.nt)(W:id≠q)(J:γ id=some (nstV s vs))(D:γ' id=some (nstV s vs'))(c:∀i,i≠id->i≠q->γ' i=γ i)
  (hq:∀x,γ q=some x->γ' q=some none) (B:∀b,own γ' b ↔ own γ b) (C:∀b d,γ' q=some d->b∈blks d->b ∉ blks (nstV s vs')/\(∀i t,i≠id->i≠q->γ i=some t->b ∉ blks t)) (Q:∀i t b,i≠id->i≠q->γ i=some t->b∈blks t->b ∉ blks (nstV s vs'))
  (O:w.heap.size<=w'.heap.size) (I:∀k,B8 s≠some k->w'.heap[k]? = w.heap[k]?) (X:Below cx.w0.heap.size w w') (ab:w.drawn<=w'.drawn)
  (hn:(∀b,Sg cx.S0 cx.w0.heap.size γ b->b<w.heap.size->w'.heap[b]? = w.heap[b]? /\ Sg cx.S0 cx.w0.heap.size γ' b)->Bm w' (Sg cx.S0 cx.w0.heap.size γ') γ' cx.w0.heap.size (nstV s vs') (.nest ty qs))
  (he:(∀b,Sg cx.S0 cx.w0.heap.size γ b->b<w.heap.size->w'.heap[b]? = w.heap[b]? /\ Sg cx.S0 cx.w0.heap.size γ' b)->∃x,γ' q=some x/\Bm w' (Sg cx.S0 cx.w0.heap.size γ') γ' cx.w0.heap.size x e)
  (hv:Rep w' (Sg cx.S0 cx.w0.heap.size γ') γ' av v):St cx (τ.upd dst av [(id,.nest ty qs),(q,e)]) (a.put dst v) w':=by
 have z:∀b,B8 s=some b->own γ b:=λb Y=>⟨id,_,J,mem_nstV.2 (aL Y)⟩
 have aa:∀b,Sg cx.S0 cx.w0.heap.size γ b->B8 s≠some b:=λb Z e=>by
  have M:=z b e;rcases Z with⟨_,h⟩|⟨_,h⟩
  ·have:=(u.ge b M).1.1;omega
  ·exact h M
 have ac:∀b,Sg cx.S0 cx.w0.heap.size γ b->Sg cx.S0 cx.w0.heap.size γ' b:=λb Y=>Y.elim aL (λ⟨h1,j⟩=>aK ⟨h1,λM=>j ((B b).1 M)⟩)
 have hk:∀b,Sg cx.S0 cx.w0.heap.size γ b->b<w.heap.size->w'.heap[b]? = w.heap[b]? /\ Sg cx.S0 cx.w0.heap.size γ' b:=λb Z _=>⟨I b (aa b Z),ac b Z⟩
 refine⟨γ',u.step hd O hk (λi x L=>?_) (λi hi=>?_) (λi e0 hi=>?_) (λi p b d t hi g m H=>?_) (λb Y=>?_) (u.below.trans X) hv (λb U _=>⟨I b (λe=>U (z b e)),λM=>U ((B b).1 M)⟩) (λ_=>ab)⟩
 ·by_cases h1:i=id
  ·subst h1;rw[J]at L;injection L with L;subst L;exact aK (aK (y2w D))
  ·by_cases j:i=q
   ·subst j;exact aK (aL (hq x L))
   ·exact aL ((c i h1 j).trans L)
 ·rw[zdn W]at hi;by_cases h1:i=id
  ·rw[if_pos h1]at hi;cases hi
  ·rw[if_neg h1]at hi;by_cases j:i=q
   ·rw[if_pos j]at hi;cases hi
   ·exact⟨c i h1 j,λb d hi hm=>I b (λe=>h1 (u.inj _ _ _ _ _ hi J hm (mem_nstV.2 (aL e))))⟩
 ·rw[zdn W]at hi;by_cases h1:i=id
  ·subst h1;rw[if_pos rfl]at hi;injection hi with hi
   subst hi;exact⟨_,D,hn hk⟩
  ·rw[if_neg h1]at hi;by_cases j:i=q
   ·subst j;rw[if_pos rfl]at hi;injection hi with hi
    subst hi;exact he hk
   ·rw[if_neg j]at hi;cases hi
 ·have sym:∀i p d t,γ' i=some d->γ' p=some t->b∈blks d->b∈blks t->i=id->i=p:=λi p d t hi g m H h1=>by
   subst h1;rw[D]at hi;injection hi with hi
   subst hi;by_cases j:p=i
   ·exact j.symm
   ·by_cases G:p=q
    ·subst G;exact absurd m (C b t g H).1
    ·rw[c p j G]at g;exact absurd m (Q p t b j G g H)
  by_cases h1:i=id
  ·exact sym i p d t hi g m H h1
  ·by_cases j:p=id
   ·exact(sym p i t d g hi H m j).symm
   ·by_cases G:i=q
    ·by_cases N:p=q
     ·rw[G,N]
     ·subst G;rw[c p j N]at g;exact absurd H ((C b d hi m).2 p t j N g)
    ·by_cases N:p=q
     ·subst N;rw[c i h1 G]at hi;exact absurd m ((C b t g H).2 i d h1 G hi)
     ·rw[c i h1 G]at hi;rw[c p j N]at g;exact u.inj _ _ _ _ _ hi g m H
 ·have:=u.ge b ((B b).1 Y);exact⟨this.1,Nat.lt_of_lt_of_le this.2 O⟩
variable {es:List NE}
theorem zyt {τ:AS}{a:Act}(c:StG cx γ τ a w)(j:τ.find id=some (.nest ty es)) :
  ∃s vs us,γ id=some (nstV s vs)/\s.oneCell'=true/\vs.size=es.length/\w.ownsRow cx.w0.heap.size ty 1 s es.length us/\(∀u∈us,u.oneCell'=true)/\(∀k (m:k<es.length),es[k]≠.hole->us.getD k undef=vs.getD k undef)/\(∀k (m:k<es.length),NRep w (Sg cx.S0 cx.w0.heap.size γ) cx.w0.heap.size (vs.getD k undef) es[k])/\DisB (B8 s) vs:=by
 have b:=c.me id;rw[j]at b;obtain⟨d,h,s,vs,g,h1,B,⟨us,z,v,t⟩,q,p⟩:=b;subst g;exact⟨s,vs,us,h,h1,B,z,v,t,q,p⟩
theorem zvl {d k ety:Nat}{xs:List AV}(ho:o.op=.load T x)(am:o.dst=some d)(hd:dok cx o=true)(af:A6 x=true)(B:σ.eval x=.der (.nelt k) id)(hT:lkT cx.E.tab T=some i)(ha:i.shape.agg=false)(hl:σ.find id=some (.nest ty es))(he:es[k]? = some (.row ety sz xs))(hn:σ.find d=none)(ad:id≠d) :
  Ao cx o σ (.row d) [id,d] [(id,.nest ty (es.set k .hole)),(d,.row ety sz xs)]:=by
 refine⟨λi e he=>zwf he,λτ h1 v a w Q K ⟨γ,u⟩ hK=>C9 (λc hc=>by rw[ho]at hc;cases hc) ?_⟩;have ex:=u.ev x af;rw[h1 x (by simp[ho,Op.operands]),B]at ex;obtain⟨s,vs,us,L,ai,ag,z,ab,aa,ac,G⟩:=zyt u (by rw[v id Δ];exact hl);obtain⟨hk,ae⟩:=List.getElem?_eq_some_iff.1 he;have I:γ d=none:=by have:=u.me d;rw[v d Δ,hn]at this;exact this
 have U:=ac k hk;rw[ae]at U;obtain⟨us1,aj⟩:=y66 U;obtain⟨N,M⟩:=I9 aj;have al:(execOp a.eval o).run cx.P w=.ok (.value (vs.getD k undef)) w:=by
  have O:=z;rcases z.2 with⟨_,h0⟩|⟨g,ao,an,ah,_,hh,_⟩
  ·omega
  ·subst ah;have hv:a.eval x=.pointer (some ⟨g,0+k,none⟩):=by rw[ex.der_inv L];simp only[cI,con0]
   have hc:=Oc O rfl k Ω;have J:=Tb (cx.E.ok T i hT) ha w ⟨g,0+k,none⟩ (us.getD k undef) (by rw[cB];exact hc);rw[aa k hk (by rw[ae];simp)]at J;simp only[execOp,ho,hv,Instr.loadAt,Instr.sureAddr,Sem.run_bind,Sem.run_pure,Result.andThen_ok,J]
 unfold Oper.wp;rw[al];have ak:k<vs.size:=Ω
 have D:∀i,(vs.setIfInBounds k .nilFunc).getD i undef=if i=k then .nilFunc else vs.getD i undef:=λi=>zt1 _ _ _ _ ak
 have t:∀i b,B8 ((vs.setIfInBounds k .nilFunc).getD i undef)=some b->i≠k/\B8 (vs.getD i undef)=some b:=λi b h=>by
  rw[D]at h;by_cases h':i=k
  ·rw[if_pos h']at h;simp[B8]at h
  ·rw[if_neg h']at h;exact⟨h',h⟩
 let γ':Gam:=λi=>if i=id then some (nstV s (vs.setIfInBounds k .nilFunc))else if i=d then some (some ((vs.getD k undef).ownBlock,vs.getD k undef))else γ i
 have g1:γ' id=some (nstV s (vs.setIfInBounds k .nilFunc)):=if_pos rfl;have g2:γ' d=some (some ((vs.getD k undef).ownBlock,vs.getD k undef)):=by show(if d=id then _ else if d=d then _ else _)=_;rw[if_neg (Ne.symm ad),if_pos rfl]
 have g3:∀i,i≠id->i≠d->γ' i=γ i:=λi h1 v=>by show(if i=id then _ else if i=d then _ else _)=_;rw[if_neg h1,if_neg v]
 have bl:∀i Z b,i≠id->γ i=some Z->b∈blks Z->B8 s≠some b/\∀j,B8 (vs.getD j undef)≠some b:=λi Z b hi H m =>
  ⟨λe=>hi (u.inj _ _ _ _ _ H L m (mem_nstV.2 (aL e))),λj C=>hi (u.inj _ _ _ _ _ H L m (mem_nstV.2 (aK ⟨j,C⟩)))⟩
 refine hK _ _ (zyq (γ':=γ') (q:=d) (w':=w) u (C5 hd) ad L g1 g3 (λx B=>by rw[I]at B;cases B) (λb=>⟨λ⟨i,x,hi,m⟩=>?_,λ⟨i,x,hi,m⟩=>?_⟩) (λb x B m=>?_) (λi Z b h1 v hi m hc=>?_) (aD _) (λ_ _=>rfl) (Below.refl _ _) (aD _) (λW=>?_) (λW=>?_) (.row g2 (λg s e _=>by injection e with e;injection e with _ e)))
 ·by_cases h1:i=id
  ·subst h1;rw[g1]at hi;injection hi with hi;subst hi
   rcases mem_nstV.1 m with m|⟨j,m⟩
   ·exact⟨_,_,L,mem_nstV.2 (aL m)⟩
   ·exact⟨_,_,L,mem_nstV.2 (aK ⟨j,(t j b m).2⟩)⟩
  ·by_cases v:i=d
   ·subst v;rw[g2]at hi;injection hi with hi;subst hi
    exact⟨_,_,L,mem_nstV.2 (aK ⟨k,(Ey N M).1 m⟩)⟩
   ·rw[g3 i h1 v]at hi;exact⟨i,x,hi,m⟩
 ·by_cases h1:i=id
  ·subst h1;rw[L]at hi;injection hi with hi;subst hi
   rcases mem_nstV.1 m with m|⟨j,m⟩
   ·exact⟨_,_,g1,mem_nstV.2 (aL m)⟩
   ·by_cases p:j=k
    ·subst p;exact⟨_,_,g2,(Ey N M).2 m⟩
    ·exact⟨_,_,g1,mem_nstV.2 (aK ⟨j,by rw[D,if_neg p];exact m⟩)⟩
  ·by_cases v:i=d
   ·subst v;rw[I]at hi;cases hi
   ·exact⟨i,x,(g3 i h1 v).trans hi,m⟩
 ·rw[g2]at B;injection B with B;subst B
  have Y:=(Ey N M).1 m;refine⟨λh=>?_,λi Z h1 v hi hm=>(bl i Z b h1 hi hm).2 k Y⟩;rcases mem_nstV.1 h with h|⟨i,h⟩
  ·exact G.2 k b h Y
  ·exact(t i b h).1 (G.1 _ _ _ (t i b h).2 Y)
 ·obtain⟨q1,q2⟩:=bl i Z b h1 hi m;rcases mem_nstV.1 hc with h|⟨j,h⟩
  ·exact q1 h
  ·exact q2 j (t j b h).2
 ·refine⟨s,vs.setIfInBounds k .nilFunc,rfl,ai,by simp[ag],⟨us,by rw[length_set];exact z,ab,λj C hh=>?_⟩,λj C=>?_,λi j b hi C=>G.1 i j b (t i b hi).2 (t j b C).2,λi b m hi=>G.2 i b m (t i b hi).2⟩
  ·have X:j<es.length:=by simpa using C
   simp only[bP]at hh;rw[D];by_cases p:k=j
   ·rw[if_pos p]at hh;exact absurd rfl hh
   ·rw[if_neg p]at hh;rw[if_neg (λe=>p e.symm)];exact aa j X hh
  ·have X:j<es.length:=by simpa using C
   simp only[bP];rw[D];by_cases p:k=j
   ·rw[if_pos p,if_pos p.symm];rfl
   ·rw[if_neg p,if_neg (λe=>p e.symm)];exact(ac j X).moved (aD _) W (λ_ _=>rfl)
 ·obtain⟨q1,us',q2,q3,q4,q5⟩:=U;exact⟨_,g2,vs.getD k undef,us',rfl,q1,q2,q3,λk hk j C=>(q4 k hk j C).mono (aD _) W,q5⟩
theorem zre {q k ety:Nat}{y:Operand}{xs:List AV}(ho:o.op=.store T x y)(hd:dok cx o=true)(av:A6 x=true)(au:A6 y=true)(hx:σ.eval x=.der (.nelt k) id)(hy:σ.eval y=.row q)(hT:lkT cx.E.tab T=some i)(ap:i.sz=1)(hl:σ.find id=some (.nest ty es))(hq:σ.find q=some (.row ety sz xs))(he:es[k]? = some .hole)(ad:id≠q) :
  Ao cx o σ (.tup []) [id,q] [(id,.nest ty (es.set k (.row ety sz xs))),(q,.dead)]:=by
 refine⟨λi e he=>zwf he,λτ h1 C a w Q K ⟨γ,v⟩ hK=>C9 (λc hc=>by rw[ho]at hc;cases hc) ?_⟩;have ex:=v.ev x av;rw[h1 x (by simp[ho,Op.operands]),hx]at ex;have ey:=v.ev y au;rw[h1 y (by simp[ho,Op.operands]),hy]at ey;obtain⟨s,vs,us,hg,ba,az,ab,am,aw,ao,ai⟩:=zyt v (by rw[C id Δ];exact hl);obtain⟨I,us1,D,B,J,af,bb,an⟩:=U4 (id:=q) v (by rw[C q Δ];exact hq);obtain⟨U,O⟩:=I9 J;obtain⟨hk,bg⟩:=List.getElem?_eq_some_iff.1 he;have bf:k<vs.size:=Ω
 have aj:I.cells=#[I]:=by rcases J.2 with⟨e,_⟩|⟨_,_,_,e,_⟩<;>(rw[e];rfl)
 have ax:us.length=es.length*1:=ab.1;obtain⟨g,L,t,ac,ak,hh,ae,bd,bm,ay⟩:∃g L t,s=.slice (some ⟨g,0,none⟩) es.length L/\cx.w0.heap.size<=g/\w.heap[g]? = some (.cells t ty (0,0))/\es.length<=L/\L<=maxLen/\t.size=L*1/\t.toList.take (es.length*1)=us:=by
  rcases ab.2 with⟨_,h0⟩|h
  ·omega
  ·exact h
 have Z:B8 s=some g:=by rw[ac];rfl
 have hv:a.eval x=.pointer (some ⟨g,0+k,none⟩):=by rw[ex.der_inv hg,ac];simp only[cI,con0]
 have bj:a.eval y=I:=ey.row_inv D (Gp B);have M:=z65 (cx.E.ok T i hT) w g (0+k) ty t I hh (by rw[aj,ap];rfl) Ω (λu X=>by rw[aj]at X;simp at X;rw[X];exact B);rw[aj,ap,cB]at M;generalize N:(t.toList.take k++(#[I]:Array Value).toList++t.toList.drop (k+1)).toArray=p at M;have bi:(execOp a.eval o).run cx.P w=.ok .skip (w.setRow g p):=by
  rw[cB]at hv;simp only[execOp,ho,hv,bj,Instr.storeAt,Instr.sureAddr,Sem.run_bind,Sem.run_pure,Result.andThen_ok,M]
 unfold Oper.wp;rw[bi];have aq:=setRow_heap w g t p ty (0,0) hh;have z:∀q,q≠g->(w.setRow g p).heap[q]? = w.heap[q]? := λq hq=>setRow_other w g q _ hq
 have W:w.heap.size<=(w.setRow g p).heap.size:=Δ
 have bk:w.drawn<=(w.setRow g p).drawn:=aD _;have bh:own γ g:=⟨id,_,hg,mem_nstV.2 (aL Z)⟩;have ar:Below cx.w0.heap.size w (w.setRow g p):=⟨rfl,rfl,rfl,W,λk hk=>z k (by have:=(v.ge g bh).1.1;omega)⟩;generalize w.setRow g p=w' at *;have H:∀i,(vs.setIfInBounds k I).getD i undef=if i=k then I else vs.getD i undef:=λi=>zt1 _ _ _ _ bf
 have bl:∀i d' b,i≠id->γ i=some d'->b∈blks d'->B8 s≠some b/\∀j,B8 (vs.getD j undef)≠some b:=λi d' b hi aa d =>
  ⟨λe=>hi (v.inj _ _ _ _ _ aa hg d (mem_nstV.2 (aL e))),λj G=>hi (v.inj _ _ _ _ _ aa hg d (mem_nstV.2 (aK ⟨j,G⟩)))⟩
 have Y:∀b,B8 I=some b->B8 s≠some b/\∀j,B8 (vs.getD j undef)≠some b:=λb d=>bl q _ b (Ne.symm ad) D ((Ey U O).2 d)
 have bc:∀b,B8 (vs.getD k undef)≠some b:=λb d=>by
  have:=ao k hk;rw[bg]at this;have this:vs.getD k undef=.nilFunc:=this;rw[this]at d;simp[B8]at d
 let γ':Gam:=λi=>if i=id then some (nstV s (vs.setIfInBounds k I))else if i=q then some none else γ i
 have g1:γ' id=some (nstV s (vs.setIfInBounds k I)):=if_pos rfl;have g2:γ' q=some none:=by show(if q=id then _ else if q=q then _ else _)=_;rw[if_neg (Ne.symm ad),if_pos rfl]
 have g3:∀i,i≠id->i≠q->γ' i=γ i:=λi h1 C=>by show(if i=id then _ else if i=q then _ else _)=_;rw[if_neg h1,if_neg C]
 refine hK _ _ (zyq (γ':=γ') (q:=q) (w':=w') v (C5 hd) ad hg g1 g3 (λx hx=>g2) (λb=>⟨λ⟨i,x,hi,d⟩=>?_,λ⟨i,x,hi,d⟩=>?_⟩) (λb x hx d=>?_) (λi d' b h1 C hi d hc=>?_) W (λb d=>z b (λe=>d (by rw[e];exact Z))) ar bk (λag=>?_) (λag=>⟨_,g2,rfl⟩) (.tup #[] rfl (λj G=>absurd G Δ)))
 ·by_cases h1:i=id
  ·subst h1;rw[g1]at hi;injection hi with hi;subst hi
   rcases mem_nstV.1 d with d|⟨j,d⟩
   ·exact⟨_,_,hg,mem_nstV.2 (aL d)⟩
   ·rw[H]at d;by_cases m:j=k
    ·rw[if_pos m]at d;exact⟨_,_,D,(Ey U O).2 d⟩
    ·rw[if_neg m]at d;exact⟨_,_,hg,mem_nstV.2 (aK ⟨j,d⟩)⟩
  ·by_cases C:i=q
   ·subst C;rw[g2]at hi;injection hi with hi;subst hi;cases d
   ·rw[g3 i h1 C]at hi;exact⟨i,x,hi,d⟩
 ·by_cases h1:i=id
  ·subst h1;rw[hg]at hi;injection hi with hi;subst hi
   rcases mem_nstV.1 d with d|⟨j,d⟩
   ·exact⟨_,_,g1,mem_nstV.2 (aL d)⟩
   ·exact⟨_,_,g1,mem_nstV.2 (aK ⟨j,by rw[H,if_neg (λe=>by subst e;exact bc b d)];exact d⟩)⟩
  ·by_cases C:i=q
   ·subst C;rw[D]at hi;injection hi with hi;subst hi
    exact⟨_,_,g1,mem_nstV.2 (aK ⟨k,by rw[H,if_pos rfl];exact(Ey U O).1 d⟩)⟩
   ·exact⟨i,x,(g3 i h1 C).trans hi,d⟩
 ·rw[g2]at hx;injection hx with hx;subst hx;cases d
 ·obtain⟨q1,q2⟩:=bl i d' b h1 hi d;rcases mem_nstV.1 hc with h|⟨j,h⟩
  ·exact q1 h
  ·rw[H]at h;by_cases m:j=k
   ·rw[if_pos m]at h;exact C (v.inj _ _ _ _ _ hi D d ((Ey U O).2 h))
   ·rw[if_neg m]at h;exact q2 j h
 ·have al:p.toList.take (es.length*1)=us.set k I:=by
   rw[<-N,<-ay,set_eq_take_append_cons_drop,if_pos Ψ];have:=zo4 t.toList [I] k (es.length*1) Ψ Ψ;simpa using this
  refine⟨s,vs.setIfInBounds k I,rfl,ba,by simp[az],⟨us.set k I,⟨by simp[ax],aK ⟨g,L,p,by rw[length_set];exact ac,ak,aq,by simpa using ae,bd,?_,by simpa using al⟩⟩,λu X=>?_,λj G hh=>?_⟩,λj G=>?_,λi j b hi G=>?_,λi b d hi=>?_⟩
  ·rw[<-N];have:=zdk t.toList [I] k Ψ;simpa[bm]using this
  ·rcases mem_or_eq_of_mem_set X with X|X
   ·exact am u X
   ·rw[X];exact B
  ·have ah:j<es.length:=by simpa using G
   rw[H];by_cases m:j=k
   ·subst m;rw[if_pos rfl,aC,cD Ω];rfl
   ·rw[if_neg m,aC,getElem?_set_ne (λe=>m e.symm),<-aC];simp only[bP]at hh;rw[if_neg (λe=>m e.symm)]at hh;exact aw j ah hh
  ·have ah:j<es.length:=by simpa using G
   simp only[bP];rw[H];by_cases m:j=k
   ·rw[if_pos m.symm,if_pos m];exact⟨B,us1,J.moved (λb d=>z b (λe=>(Y b d).1 (by rw[Z,e]))),af,λk hk j G=>(bb k hk j G).mono W ag,an⟩
   ·rw[if_neg m,if_neg (λe=>m e.symm)];exact(ao j ah).moved W ag (λb d=>z b (λe=>ai.2 j b (by rw[Z,e]) d))
  ·rw[H]at hi G;by_cases h1:i=k
   ·by_cases C:j=k
    ·rw[h1,C]
    ·rw[if_pos h1]at hi;rw[if_neg C]at G;exact absurd G ((Y b hi).2 j)
   ·by_cases C:j=k
    ·rw[if_neg h1]at hi;rw[if_pos C]at G;exact absurd hi ((Y b G).2 i)
    ·rw[if_neg h1]at hi;rw[if_neg C]at G;exact ai.1 i j b hi G
  ·rw[H]at hi;by_cases h1:i=k
   ·rw[if_pos h1]at hi;exact(Y b hi).1 d
   ·rw[if_neg h1]at hi;exact ai.2 i b d hi
end
open Go.RowKit
section
variable {α β:Type}
def mkn (n:Int)(bytes:Nat)(k:Nat->Option β):Option β:=if 0<=n/\n.toNat<=1099511627776/\bytes*n.toNat<=281474976710656 then k n.toNat else none
theorem MakX.on {n:Int}{bytes:Nat}{K:List AV->Prop}{k:Nat->Option β}{r:β}(h:mkn n bytes k=some r)(b:∀m,k m=some r->K (aG m .nils)):MakX n bytes .nils K:=by
 unfold mkn at h;split at h
 ·rename_i a;exact .mk n.toNat Ω a.2.1 a.2.2 _ (.refl _) (b _ h)
 ·cases h
def nst (r:Nat)(x:Option β):Option β:=x
def frr (r:Nat)(x:Option β):Option β:=x
def enR (er:α->AV)(ety sz:Nat)(q:List α):NE:=.row ety sz (q.map er)
def ncx (n:Int)(len:Nat)(c:Option β):Option β:=if 0<=n/\n.toNat<len then c else none
def ntk (l:List (List α))(k:Nat)(c:List α->Option β):Option β:=match l[k]? with|some q=>c q|none=>none
def npt (l:List (List α))(k:Nat)(v:List α)(c:List (List α)->Option β):Option β:=if k<l.length then c (l.set k v)else none
end
section
variable {α β:Type} {E:Env} {nt:Nat} {o:Oper} {σ:AS} {K:OpK}
variable {T:Nat}{x:Operand}{i:TyI}
theorem OpX.lnc {e esz eb:Nat}(g:o.op=.call { callee:=.builtin .len,args:=#[x],argTypes:=#[T] })(j:dokN E nt o.dst=true)(a:A6 x=true)(d:σ.eval x=.cont n id)(m:lkT E.tab T=some i)(hs:i.shape=.slc e esz eb)(h:K (.int .i64 (n:Int)) [] []):OpX E nt o σ K :=
 .mk _ _ _ (λcx c b=>y06 g (Aq j c b) a d (by rw[c];exact m) hs) h
theorem OpX.ixc {n:Int}{len:Nat}{c:Option β}{r:β}{e eb:Nat}{y:Operand}{kd:IntKind}(a:ncx n len c=some r)(p:o.op=.indexAddr T x y)(u:dokN E nt o.dst=true)(d:A6 x=true)(b:A6 y=true)(m:σ.eval x=.cont len id)(j:σ.eval y=.int kd n)(v:lkT E.tab T=some i)(hs:i.shape=.slc e 1 eb)
  (t:c=some r->K (.der (.nelt n.toNat) id) [] []):OpX E nt o σ K:=by
 unfold ncx at a;split at a
 ·rename_i q;exact .mk _ _ _ (λcx h g=>zht p (Aq u h g) d b m (by rw[j];congr 1;omega) (by rw[h];exact v) hs q.2) (t a)
 ·cases a
variable {l:List (List α)}
theorem OpX.ntk (er:α->AV){k:Nat}{c:List α->Option β}{r:β}{d ety:Nat}(b:Proofs.YthbogefcfhmpgaaGreat.ntk l k c=some r)(u:o.op=.load T x)(a:o.dst=some d)(C:dokN E nt o.dst=true)(g:A6 x=true)(p:σ.eval x=.der (.nelt k) id)(G:lkT E.tab T=some i)(D:i.shape.agg=false)
  (z:σ.find id=some (.nest ty (l.map (enR er ety sz)))) (v:σ.find d=none) (j:aE id d=false) (B:∀q,c q=some r->K (.row d) [id,d] [(id,.nest ty ((l.map (enR er ety sz)).set k .hole)),(d,.row ety sz (q.map er))]):OpX E nt o σ K:=by
 unfold Proofs.YthbogefcfhmpgaaGreat.ntk at b;split at b
 ·rename_i q t;exact .mk _ _ _ (λcx m h=>zvl u a (Aq C m h) g p (by rw[m];exact G) D z (by rw[bM,t];rfl) v (nbne j)) (B _ b)
 ·cases b
theorem OpX.npt (er:α->AV){k:Nat}{v:List α}{c:List (List α)->Option β}{r:β}{q ety:Nat}{y:Operand}(a:Proofs.YthbogefcfhmpgaaGreat.npt l k v c=some r)(C:o.op=.store T x y)(H:dokN E nt o.dst=true)(d:A6 x=true)(b:A6 y=true)(z:σ.eval x=.der (.nelt k) id)(u:σ.eval y=.row q)(I:lkT E.tab T=some i)(p:i.sz=1)
  (D:σ.find id=some (.nest ty ((l.map (enR er ety sz)).set k .hole))) (B:σ.find q=some (.row ety sz (v.map er))) (j:aE id q=false) (G:∀l',c l'=some r->K (.tup []) [id,q] [(id,.nest ty (l'.map (enR er ety sz))),(q,.dead)]):OpX E nt o σ K:=by
 unfold Proofs.YthbogefcfhmpgaaGreat.npt at a;split at a
 ·rename_i m;have h:=G _ a;have e:((l.map (enR er ety sz)).set k .hole).set k (.row ety sz (v.map er))=(l.set k v).map (enR er ety sz):=by rw[set_set,map_set];rfl
  rw[<-e]at h;exact .mk _ _ _ (λcx t g=>zre C (Aq H t g) d b z u (by rw[t];exact I) p D B (by rw[cD (by simpa using m)]) (nbne j)) h
 ·cases a
end
section
variable {α β:Type} {E:Env} {nt:Nat}
def F0:AV->Bool |.cont _ _=>true |_=>false
variable {l:List (List α)}
theorem LeX.frr (r:Nat)(er:α->AV)(ty ety sz:Nat)(hr:σ.find r=some (.nest ty (l.map (enR er ety sz)))):LeX E nt σ (σ.rpAll r F0 (.sl 1 (l.map λq=>.sl sz (q.map er))) .dead):=by
 refine LeX.rpAll r F0 _ _ _ hr (λty cs h=>by cases h) (λcx γ a w d ac hd he=>?_);obtain⟨s,vs,t,U,Q,⟨us,m,D,O⟩,X,ad⟩:=he;have t:d=nstV s vs:=t;subst t;rw[aJ]at Q m;refine⟨none,(λb p=>by cases p),λS' hS H=>⟨rfl,λγ' x v aa z hx N=>?_⟩⟩;have L:∃n,x=.cont n r:=by
  cases x with
  |cont n i=>simp only[AV.leafId,aS]at hx;exact⟨n,by rw[hx]⟩
  |_=>simp[F0]at z
 obtain⟨n,rfl⟩:=L;have M:v=s:=by
  cases N with
  |cont h N hl =>
   rw[hd]at h;injection h with h
   have:=N none (.tuple (#[s]++vs)) h.symm;rw[this];simp only[cI,con0]
 subst M;have Z:∀k,k<l.length->Rep w S' G0 (.sl sz ((l[k]?.getD []).map er)) (us.getD k undef):=λk u=>by
  have h3:=X k (by simpa using u);have h2:=O k (by simpa using u) (by simp[enR]);simp only[aV,enR]at h3;obtain⟨q1,us',q2,q3,q4,q5⟩:=h3;obtain⟨J,ab⟩:=I9 q2;obtain⟨s',c,C⟩:=Fv (w:=w) (S:=Sg cx.S0 cx.w0.heap.size γ) (γ:=γ) (S':=S') (d:=some ((vs.getD k undef).ownBlock,vs.getD k undef)) ⟨_,us',rfl,q1,q2,q3,q4,q5⟩ (λb p _=>hS b p) (λs g' e=>by
   injection e with e
   injection e with I e2
   rw[J]at I;exact H g' (mem_nstV.2 (aK ⟨k,I⟩)) (λp=>by cases p)) G0
  injection c with c
  injection c with _ c
  rw[h2,c,bA u];exact C
 obtain⟨s0,g,W⟩:=Fv (w:=w) (S:=S') (γ:=γ) (S':=S') (B:=cx.w0.heap.size) (ty:=ty) (sz:=1) (xs:=l.map λq=>.sl sz (q.map er)) (d:=some (v.ownBlock,v)) ⟨v,us,rfl,U,by rw[aJ];exact m,λk u=>by rw[aV];rfl,λk u j hj=>by
   have G:k<l.length:=by simpa using u
   have Y:j=0:=by
    have:j<1:=by simpa[bB]using hj
    omega
   subst Y;simp only[aV,bB,bF,Nat.mul_one,cA];have:=Z k G;rw[bA G]at this;exact this,D⟩ (λb p _=>p) (λs g' e=>by
   injection e with e
   injection e with I e2
   rw[(I9 m).1]at I;exact H g' (mem_nstV.2 (aL I)) (λp=>by cases p)) γ'
 injection g with g
 injection g with _ g
 rw[g];exact W
variable {R:Exit->AS->Prop} {K:List Bu}
theorem AW.frrO {ety:Nat}{c:Code}{x:Option β}{y:β}(er:α->AV)(h:Proofs.YthbogefcfhmpgaaGreat.frr id x=some y)(r:Nat)(a:σ.find r=some (.nest ty (l.map (enR er ety sz))))(k:x=some y->AW E nt R (.code c::K) .normal (σ.rpAll r F0 (.sl 1 (l.map λq=>.sl sz (q.map er))) .dead)):AW E nt R (.code c::K) .normal σ:=bU (LeX.frr r er ty ety sz a) (k h)
theorem AW.nstO {m:Nat}{c:Code}{x:Option β}{y:β}{er:α->AV}(ety sz:Nat)(h:Proofs.YthbogefcfhmpgaaGreat.nst id x=some y)(r:Nat)(a:σ.find r=some (.row ty 1 (aG m .nils)))(k:x=some y->AW E nt R (.code c::K) .normal (σ.rpAll r Dw (.cont m r) (.nest ty ((aG m ([]:List α)).map (enR er ety sz))))):AW E nt R (.code c::K) .normal σ:=by
 have e:(aG m ([]:List α)).map (enR er ety sz)=aG m (.row ety sz []):=by rw[map_replicate];rfl
 rw[e]at k;exact bU (LeX.nst r ety sz a) (k h)
end
attribute [irreducible] mkn nst frr ntk npt ncx
open Go.RowKit
variable {kd:IntKind}
theorem y3a {a:AV}(h:isI kd a=true):a=.int kd (intN a):=by
 cases a<;>simp[isI]at h;subst h;rfl
def qK (n:Int)(p:AV×AV):Bool:=decide (n=intN p.1)
theorem zfw {kd:IntKind}{n:Int}:∀(ps:List (AV×AV)) (i:Nat),(∀p∈ps,isI kd p.1=true)->Bt (.int kd n) (ps.map (·.1)) i=some ((ps.findIdx? (qK n)).map (· + i))
 |[],i,_=>rfl
 |(a,v)::r,i,h=>by
  have c:=y3a (h (a,v) Δ);have d:=zfw (n:=n) r (i+1) (λp g=>h p (by simp[g]));have e:eqK (.int kd n) a=some (decide (n=intN a)):=by
   simp only at c;rw[c];simp[eqK,eq1,show∀m,intN (.int kd m)=m fromλ_=>rfl]
  simp only[bD,Bt,e];by_cases b:n=intN a
  ·rw[decide_eq_true b];simp[bV,qK,b]
  ·rw[decide_eq_false b];simp only[d,bV,qK,decide_eq_false b];simp only[bC,if_false,Option.map_map];congr 1;have q:(λp:AV×AV=>decide (n=intN p.1))=qK n:=rfl
   try rw[q]
   cases findIdx? (qK n) r with
   |none=>rfl
   |some j=>simp;omega
theorem zn7 (z:AV)(q:AV×AV->Bool)(ps:List (AV×AV)):Ea z ps (ps.findIdx? q)=((ps.find? q).map (·.2)).getD z:=by
 induction ps with
 |nil=>rfl
 |cons p r ih =>
  rw[bV,find?_cons];cases a:q p with
  |true=>rfl
  |false =>
   simp only[bC,if_false];rw[<-ih];cases findIdx? q r<;>rfl
variable {ps0 ps:List (AV×AV)}
theorem zt4 {n:Int}(c:ps0.Perm ps)(t:(ps.map λp=>intN p.1).Nodup):ps0.find? (qK n)=ps.find? (qK n):=by
 have uniq:∀p∈ps,∀a∈ps,qK n p=true->qK n a=true->p=a:=λp h a u q d=>by
  obtain⟨i,hi,rfl⟩:=aQ.1 h;obtain⟨j,m,rfl⟩:=aQ.1 u;have e:intN ps[i].1=intN ps[j].1:=by
   simp only[qK,decide_eq_true_eq]at q d;rw[<-q,<-d]
  have:i=j:=(getElem_inj (h₀:=by simpa using hi) (h₁:=by simpa using m) t).1 (by simpa using e);subst this;rfl
 cases h:ps.find? (qK n)with
 |none =>
  rw[find?_eq_none]at h ⊢;exactλp hm=>h p (c.mem_iff.1 hm)
 |some p =>
  have h1:=bQ h;have g:=find?_some h;cases b:ps0.find? (qK n)with
  |none=>rw[find?_eq_none]at b;exact absurd g (b p (c.mem_iff.2 h1))
  |some a=>rw[uniq a (c.mem_iff.1 (bQ b)) p h1 (find?_some b) g]
theorem F8.mem (h:F8 ps0 ps){p:AV×AV}:p∈ps0 ↔ p∈ps:=by
 rcases h with rfl|⟨h,_⟩
 ·exact Iff.rfl
 ·exact h.mem_iff
theorem ya0 {k:AV}{r:Option Nat}(m:isI kd k=true)(h:∀p∈ps,isI kd p.1=true)(g:(ps.map λp=>intN p.1).Nodup)(c:ps0.Perm ps)(a:Bt k (ps.map (·.1)) 0=some r) :
  ∃b,Bt k (ps0.map (·.1)) 0=some b/\b.isSome=r.isSome/\∀z,Ea z ps0 b=Ea z ps r:=by
 have e:=y3a m;rw[e,zfw ps 0 h]at a;injection a with a
 have j:∀o:Option Nat,o.map (· + 0)=o:=λo=>by cases o<;>rfl
 rw[j]at a;refine⟨ps0.findIdx? (qK (intN k)),?_,?_,λz=>?_⟩
 ·rw[e,zfw ps0 0 (λp hm=>h p (c.mem_iff.1 hm)),j];simp[intN]
 ·rw[<-a];have d:∀l:List (AV×AV),(l.findIdx? (qK (intN k))).isSome=(l.find? (qK (intN k))).isSome:=λl=>by
   rw[findIdx?_isSome,cK,find?_isSome,bR]
  rw[d,d,zt4 c g]
 ·rw[zn7,<-a,zn7,zt4 c g]
theorem zk7 {k:AV}{r:Option Nat}(b:F8 ps0 ps)(a:Bt k (ps.map (·.1)) 0=some r):∃c,Bt k (ps0.map (·.1)) 0=some c/\c.isSome=r.isSome/\∀z,Ea z ps0 c=Ea z ps r:=by
 rcases b with rfl|⟨b,kd,h1,h⟩
 ·exact⟨r,a,rfl,λ_=>rfl⟩
 ·cases ps with
  |nil=>rw[perm_nil.1 b];exact⟨r,a,rfl,λ_=>rfl⟩
  |cons p t =>
   refine ya0 (kd:=kd) ?_ h1 h b a;have hi:=y3a (h1 p Δ);simp only[bD,Bt]at a;rw[hi]at a;cases k with
   |int d n =>
    simp only[eqK,eq1]at a;by_cases g:d=kd
    ·simp[isI,g]
    ·rw[decide_eq_false g]at a;cases a
   |_=>simp[eqK,eq1]at a
open Go.RowKit
def zxk (args:List AV)(me:List (Nat×Ent)):AS:=⟨args.zipIdx.map λp=>(p.2,p.1),me⟩
def boxB (np:Nat)(args:List AV)(τ:AS)(me me':List (Nat×Ent))(yk:List Nat):Bool:=me.all λx=>match x.2 with
 |.box _ _=>memB x.1 yk || (range np).any λt=>(match args[t]? with|some (.ptr k 0)=>aE k x.1|_=>false) && (match τ.get t,lkE me' x.1 with|.ptr k 0,some (.box _ _)=>aE k x.1|_,_=>false)
 |.row _ _ _=>match lkE me' x.1 with
  |none=>true
  |some (.row _ _ _)=>(range np).any λt=>(match args[t]? with|some (.row k)=>aE k x.1|_=>false) && (match τ.get t with|.row k=>aE k x.1|_=>false)
  |some _=>false
 |_=>true
variable {args:List AV}{me me':List (Nat×Ent)}{xs:List AV}
theorem zzo {np:Nat}{τ:AS}{yk:List Nat}(h:boxB np args τ me me' yk=true){i:Nat}(hi:lkE me i=some (.row ty sz xs)){e:Ent}(B:lkE me' i=some e) :
  ∃t b c a,t<np/\args[t]? = some (.row i)/\τ.get t=.row i/\e=.row b c a:=by
 have j:=bE.1 h (i,.row ty sz xs) (Ue hi);simp only[B]at j;split at j
 ·rename_i g;cases g
 ·rename_i b c a g;injection g with g
  obtain⟨t,u,d⟩:=bR.1 j;rw[cG]at u;rw[bI]at d;obtain⟨q,p⟩:=d;split at q
  ·rename_i k z;have D:k=i:=aB q;subst D;split at p
   ·rename_i v m;have C:v=k:=aB p;subst C;exact⟨t,b,c,a,u,z,m,g⟩
   ·cases p
  ·cases q
 ·cases j
theorem zxr {w':World}{S S':Nat->Prop}{γ':Gam}{B B' i c g:Nat}{b:List AV}{d m:Option (Option Nat×Value)}{v:Value}(h1:Rep w S γ (.row i) v)(z:Rep w' S' γ' (.row i) v)(j:γ i=some d)(a:γ' i=some m)
  (u:Bm w S γ B d (.row ty sz xs)) (h:Bm w' S' γ' B' m (.row c g b)):γ' i=γ i:=by
 obtain⟨s,vs,D,t,_⟩:=u;obtain⟨G,vs',C,o2,_⟩:=h;subst D C;have q:=h1.row_inv j (Gp t);have p:=z.row_inv a (Gp o2);rw[j,a,<-q,<-p]
def YK (np:Nat)(args:List AV)(τ:AS)(me':List (Nat×Ent)):List Nat->Prop |[]=>True |k::r=>((∃(t a i l:Nat) (T:Array Value) (caps caps':List AV) (ty:TypeId) (es:List AV),args[t]? = some (.yld l T caps)/\τ.get a=.yld l T caps'/\caps[i]? = some (.ptr k 0)/\caps'[i]? = some (.ptr k 0)/\lkE me' k=some (.box ty es)) \/ ∃(t i f:Nat) (caps caps':List AV) (ty:TypeId) (es:List AV),t<np/\args[t]? = some (.fn f caps)/\τ.get t=.fn f caps'/\caps[i]? = some (.ptr k 0)/\caps'[i]? = some (.ptr k 0)/\lkE me' k=some (.box ty es))/\YK np args τ me' r
theorem YK.at {np:Nat}{τ:AS}:∀{l:List Nat},YK np args τ me' l->∀k∈l,(∃(t b i l:Nat) (T:Array Value) (caps caps':List AV) (ty:TypeId) (es:List AV),args[t]? = some (.yld l T caps)/\τ.get b=.yld l T caps'/\caps[i]? = some (.ptr k 0)/\caps'[i]? = some (.ptr k 0)/\lkE me' k=some (.box ty es)) \/
   ∃(t i f:Nat) (caps caps':List AV) (ty:TypeId) (es:List AV),t<np/\args[t]? = some (.fn f caps)/\τ.get t=.fn f caps'/\caps[i]? = some (.ptr k 0)/\caps'[i]? = some (.ptr k 0)/\lkE me' k=some (.box ty es)
 |[],_,k,a=>by cases a
 |x::r,h,k,a=>by
  rcases mem_cons.1 a with rfl|a
  ·exact h.1
  ·exact h.2.at k a
inductive GX (E:Env) (nt:Nat) (fn:Func) (args:List AV) (me:List (Nat×Ent)) (σ:AS) (res:AV) (me':List (Nat×Ent)):Prop
 |mk (τ:AS) (hl:LeX E nt σ τ) (hme:τ.me=me') (avs:List AV) (h1:retA E.tab τ fn.results.toList=some avs) (h2:Sub (Kl avs) res) (yk:List Nat) (hyk:YK E.np args τ me' yk) (hb:boxB E.np args τ me me' yk=true)
def EndG (E:Env)(nt:Nat)(fn:Func)(args:List AV)(me:List (Nat×Ent))(res:AV)(me':List (Nat×Ent)):Exit->AS->Prop |.normal,σ=>GX E nt fn args me σ res me' |.ret,σ=>GX E nt fn args me σ res me' |_,_=>False
variable {f:FuncId}{fn:Func}{res:AV}
theorem ConG.walk {caps:List AV}(c:Code)(hf:E.P.funcs[f]? = some fn)(X:fn.body=some c)(hn:bK (args++caps).length fn.ntmps=true)(ay:bK E.np (args++caps).length=true)(ax:E.rg=false)(bb:E.dr=false)
  (h:AW E fn.ntmps (EndG E fn.ntmps fn (args++caps) me res me') [.code c] .normal (zxk (args++caps) me)):ConG E.P E.yl (CalF E.P f caps.length) args caps me res me':=by
 intro cx γ w vs cs hP an aq al am d ah au bd bc;have bi:(vs++cs).size=(args++caps).length:=by simp[ah,bc]
 have bm:=aF hn;have bh:=aF ay;refine callsIn_wide.1 (callsIn_of_wp (F:=Fence.wide) (n:=0) hf X trivial ?_);let I:Cx:=⟨E,cx.S0,cx.w0,fn.ntmps,λb=>b<w.heap.size/\¬own γ b,w,none,vs++cs,λ_=>rfl⟩;have h0:WP I c (EndG E fn.ntmps fn (args++caps) me res me') (zxk (args++caps) me):=bJ (h.out I rfl rfl) λe σ hk=>by cases e<;>exact hk
 have B:∀t (D:t<(args++caps).length),Rep w (Sg cx.S0 cx.w0.heap.size γ) γ (args++caps)[t] ((vs++cs).getD t undef):=λt D=>by
  by_cases h1:t<args.length
  ·rw[getElem_append_left h1,aA,aO Ω,<-aA];exact au t h1
  ·rw[getElem_append_right Ω,aA,Array.getElem?_append_right Ω,<-aA,ah];exact bd _ (by rw[length_append]at D;omega)
 have W:∀t,t<(args++caps).length->(vs++cs++aX (fn.ntmps-(vs++cs).size) undef).getD t undef=(vs++cs).getD t undef:=λt D=>by
  rw[aA,aA,aO Ω]
 have aw:StG I γ (zxk (args++caps) me) { tmps:=vs++cs++aX (fn.ntmps-(vs++cs).size) undef,defers:=[] } w:=by
  refine⟨λt=>?_,d.me,d.inj,d.ge,d.below,?_,⟨λ_=>rfl,⟨[],rfl,.nil,λr hr=>by cases hr⟩,λt D=>?_,λl R hl=>d.defers.yl l R (aq _ hl),aD _⟩,d.gh,λb X=>⟨X.2,X.1,rfl⟩,λhd=>?_⟩
  ·unfold AS.get zxk;rw[zoo];by_cases D:0<=t/\t<0+(args++caps).length
   ·rw[dif_pos D];have aa:t<(args++caps).length:=Ω
    show Rep w _ γ _ ((vs++cs++aX (fn.ntmps-(vs++cs).size) undef).getD t undef);rw[W t aa];exact B t aa
   ·rw[dif_neg D];exact .any _
  ·show(vs++cs++aX (fn.ntmps-(vs++cs).size) undef).size=fn.ntmps;rw[Array.size_append,Array.size_replicate];omega
  ·have aa:t<E.np:=D;exact W t Ω
  ·exact absurd (bb.symm.trans hd) Δ
 refine wpIn_mono (h0 _ _ ⟨γ,aw⟩) (λe a w' ⟨σ,hq,ak⟩=>?_);have key:GX E fn.ntmps fn (args++caps) me σ res me'->bodyPost E.P fn (λe w'=>∃u γ',e=.returned u/\MeSt cx γ' me' w'/\Rep w' (Sg cx.S0 cx.w0.heap.size γ') γ' res u/\w.heap.size<=w'.heap.size/\(∀i,Ie me me' i=true->γ' i=γ i) /\
   (∀b,¬own γ b->b<w.heap.size->w'.heap[b]? = w.heap[b]? /\ ¬own γ' b)) .ret a w':=by
  rintro ⟨τ,hl,C,avs,h1,h2,yk,ar,ao⟩;obtain⟨γ',hs⟩:=hl I rfl rfl a w' ak;obtain⟨u,hu,hr⟩:=Tq hs h1;have ad:∀b,¬own γ b->b<w.heap.size->w'.heap[b]? = w.heap[b]? /\ ¬own γ' b:=λb X q=>by
   obtain⟨q1,q2,q3⟩:=hs.fr b ⟨q,X⟩;exact⟨q3,q1⟩
  have aj:w.heap.size<=w'.heap.size:=hs.defers.sz;refine⟨hs.defers.d0 ax,u,hu,u,γ',rfl,?_,hr.sub h2,aj,λi M=>?_,ad⟩
  ·refine⟨λt=>.any _,λi=>by have:=hs.me i;unfold aM at this ⊢;rw[<-C];exact this,hs.inj,hs.ge,hs.below,al.symm,⟨λ_=>rfl,⟨[],rfl,.nil,λr hr=>by cases hr⟩,λt D=>by rw[am]at D;omega,λl R hl=>?_,cP d.defers.sz aj⟩,hs.gh,λb X=>?_,λhd=>absurd (an.symm.trans hd) Δ⟩
   ·obtain⟨q0,q1,q2,q3⟩:=d.defers.yl l R hl;obtain⟨k1,k2⟩:=ad l q2 q1;exact⟨q0,Ω,k2,k1.trans q3⟩
   ·obtain⟨q1,q2,q3⟩:=d.fr b X;obtain⟨k1,k2⟩:=ad b q1 q2;exact⟨k2,Ω,k1.trans q3⟩
  ·unfold Ie at M;split at M;rotate_left
   ·rename_i ty sz xs e hi he;obtain⟨t,ag,bl,bj,D,e1,e2,rfl⟩:=zzo ao hi he;obtain⟨q,H⟩:=List.getElem?_eq_some_iff.1 e1;have L:=B t q;rw[H]at L;have J:=hs.tm t;rw[e2,hs.defers.pin t D]at J;have z:=d.me i;unfold aM at z;rw[hi]at z;obtain⟨x,U,z⟩:=z;have v:=hs.me i;unfold aM at v;rw[C,he]at v;obtain⟨x2,p,v⟩:=v;exact zxr L J U p z v
   ·cases M
   rename_i ty es hi;have G:=bE.1 ao (i,.box ty es) (Ue hi);have G:=(cM _ _).mp G;rcases G with G|G
   ·rcases ar.at i ((Dn _ _).1 G)with⟨t,t',j,l,T,yc,ap,ag,bg,e1,e2,e3,e4,e5⟩|⟨t,j,f',yc,ap,ag,bg,av,e1,e2,e3,e4,e5⟩
    ·obtain⟨q,H⟩:=List.getElem?_eq_some_iff.1 e1;have L:=B t q;rw[H]at L;have J:=hs.tm t';rw[e2]at J;obtain⟨hj,ab⟩:=List.getElem?_eq_some_iff.1 e3;obtain⟨ac,N⟩:=List.getElem?_eq_some_iff.1 e4;have Z:=L.yld_inv.2 j hj;have Y:=J.yld_inv.2 j ac;rw[ab]at Z;rw[N]at Y;have z:=d.me i;unfold aM at z;rw[hi]at z;obtain⟨x,U,g,af,Q,_⟩:=z;have v:=hs.me i;unfold aM at v;rw[C,e5]at v;obtain⟨x2,p,g2,ae,O,_⟩:=v;subst Q O;have m:=Z.ptr_inv U;rw[Y.ptr_inv p]at m;injection m with m
     injection m with m
     injection m with m
     rw[U,p,m]
    ·obtain⟨q,H⟩:=List.getElem?_eq_some_iff.1 e1;have L:=B t q;rw[H]at L;have J:=hs.tm t;rw[e2,hs.defers.pin t av]at J;obtain⟨hj,ab⟩:=List.getElem?_eq_some_iff.1 e3;obtain⟨ac,N⟩:=List.getElem?_eq_some_iff.1 e4;obtain⟨us,ev1,_,Z⟩:=L.fn_inv;obtain⟨us',bf,_,Y⟩:=J.fn_inv;have p3:(vs++cs).getD t undef=I.pv.getD t undef:=rfl;rw[p3,bf]at ev1;injection ev1 with _ _ ev1
     subst ev1;have Z:=Z j hj;have Y:=Y j ac;rw[ab]at Z;rw[N]at Y;have z:=d.me i;unfold aM at z;rw[hi]at z;obtain⟨x,U,g,af,Q,_⟩:=z;have v:=hs.me i;unfold aM at v;rw[C,e5]at v;obtain⟨x2,p,g2,ae,O,_⟩:=v;subst Q O;have m:=Z.ptr_inv U;rw[Y.ptr_inv p]at m;injection m with m
     injection m with m
     injection m with m
     rw[U,p,m]
   obtain⟨t,D,ai⟩:=bR.1 G;rw[cG]at D;rw[bI]at ai;obtain⟨b1,b2⟩:=ai;split at b1
   ·rename_i k hk;have e1:k=i:=aB b1;subst e1;split at b2
    ·rename_i k2 bk bn ba az;have e2:k2=k:=aB b2;subst e2;obtain⟨q,H⟩:=List.getElem?_eq_some_iff.1 hk;have L:=B t q;rw[H]at L;have J:=hs.tm t;rw[ba,hs.defers.pin t D]at J;have z:=d.me k2;unfold aM at z;rw[hi]at z;obtain⟨x,U,g,af,Q,_⟩:=z;have v:=hs.me k2;unfold aM at v;rw[C,az]at v;obtain⟨x2,p,g2,ae,O,_⟩:=v;subst Q O;have m:=L.ptr_inv U;have p2:=J.ptr_inv p;have p3:(vs++cs).getD t undef=I.pv.getD t undef:=rfl;rw[p3,p2]at m;injection m with m
     injection m with m
     injection m with m
     rw[U,p,m]
    ·cases b2
   ·cases b1
 cases e with
 |normal=>exact key hq
 |ret=>exact key hq
 |_=>exact hq.elim
open Go.RowKit
theorem zhk {cx:Cx}{fn:Func}{R:Ending->World->Prop}:∀(d:List Nat) (a:Act) (w:World),StG cx γ σ a w->cx.E.rg=true->(∀b,cx.Fr b->False)->cx.E.yl=none->a.defers=d.map (λr=>{ target:=.collected r,args:=#[] })->d.Nodup ->
  (∀r∈d,cx.w0.heap.size<=r/\r<w.heap.size/\¬own γ r/\w.heap[r]? = some (.deferred (some []))) ->
  (∀w' u,StG cx γ σ u w'->u.tmps=a.tmps->∃v,(results fn a.tmps).run cx.P w'=.ok v w'/\R (.returned v) w')->LeavesInM Fence.wide 0 cx.P fn a.tmps R a.defers .returning w
 |[],a,w,h,p,G,m,D,_,_,k=>by
  rw[D];obtain⟨v,h1,H⟩:=k w a h rfl;exact⟨v,h1,H⟩
 |r::d,a,w,h,p,G,m,D,C,q,k=>by
  obtain⟨L,X,J,I⟩:=q r (bW ..);rw[D];refine⟨Δ,aL ⟨r,w.putObj r (.deferred none),rfl,run_takeDeferred I,?_⟩⟩;have c:=(nodup_cons.1 C);have g:∀j∈d,cx.w0.heap.size<=j/\j < (w.putObj r (.deferred none)).heap.size/\¬own γ j/\(w.putObj r (.deferred none)).heap[j]? = some (.deferred (some [])):=λj t=>by
   obtain⟨Q,O,N,M⟩:=q j (aY _ t);exact⟨Q,by rw[Cz];exact O,N,(Cj (b:=j) (r:=r) (by intro e;subst e;exact c.1 t)).trans M⟩
  have z:=h.putObj (o':=.deferred none) (ds:=d.map (λr=>{ target:=.collected r,args:=#[] })) I rfl L J
   ⟨λB=>absurd (B.symm.trans p) Δ,⟨d,rfl,c.2,g⟩,h.defers.pin,λl R U=>absurd (m.symm.trans U) Δ,by rw[Cz];exact h.defers.sz⟩ (λb W=>(G b W).elim)
  exact zhk d _ _ z p G m rfl c.2 g (λw' u h1 H=>k w' u h1 (H.trans rfl))
theorem Con.walkM {fr:Bool}(c:Code)(N:E.P.funcs[f]? = some fn)(g:fn.body=some c)(O:Cd E f)(L:bK args.length fn.ntmps=true)(j:fr=false\/res.flat=true)
  (h:AW E fn.ntmps (EndA E fn res) [.code c] .normal (E9 args)) (t:E.rg=true) (m:E.yl=none) (z:E.np=0):Con { E with rg:=false } fr f args res:=by
 refine⟨O,λS w vs Q=>callsIn_wide.1 (callsIn_of_wp_marks (F:=Fence.wide) (n:=0) N g trivial ?_)⟩;have U:WP (Cx.call E S w fn.ntmps) c (EndA E fn res) (E9 args):=bJ (h.out (Cx.call E S w fn.ntmps) rfl rfl) λe σ M=>by cases e<;>exact M
 refine wpIn_mono (U _ _ (Yf m z Q (aF L))) (λe a w' ⟨σ,u,γ,q⟩=>?_);have key:(∃avs,retA E.tab σ fn.results.toList=some avs/\Sub (Ui σ (Kl avs)) res)->bodyPostM Fence.wide 0 E.P fn (λe w'=>∃v,e=.returned v/\BelE { E with rg:=false } w w'/\Rep w' (λb=>(fr=false/\S b)\/w.heap.size<=b) G0 res v) .ret a w':=by
  rintro ⟨avs,h1,p⟩;obtain⟨D,I,H,G⟩:=q.defers.marks;refine zhk (cx:=Cx.call E S w fn.ntmps) D a w' q t (λb g=>g.elim) m I H G (λX Y d W=>?_);obtain⟨v,B,J⟩:=Tq d h1;rw[W]at B;refine⟨v,B,v,rfl,⟨d.below,d.dr⟩,?_⟩;have C:=(znz (S':=λb=>S b\/w.heap.size<=b) d (λb g=>?_) J).sub p
  ·rcases j with j|j
   ·exact C.mono (aD _) (λb g _=>⟨rfl,g.elim (λh=>aL ⟨j,h⟩) aK⟩)
   ·exact C.flat j
  ·rcases g with g|g
   ·rcases g with⟨g,_⟩|⟨g,_⟩
    ·exact aL g.1
    ·exact aK g.1
   ·exact aK (d.ge b g).1.1
 cases e with
 |normal=>exact key (zg3 u)
 |ret=>exact key (zg3 u)
 |_=>exact u.elim
open Go.RowKit
theorem y1j {S:Nat->Prop}:∀(ps:List Nat) (avs:List AV) (vs:List Value) (T:Array Value) (base:List (Nat×AV)),(∀t,Rep w S γ (lkV base t) (T.getD t undef))->(∀p∈ps,p<T.size)->avs.length=ps.length->vs.length=ps.length ->
  (∀i (hi:i<avs.length),Rep w S γ avs[i] (vs.getD i undef))->∀t,Rep w S γ (lkV ((ps.zip avs).foldl (λtm x=>x::tm) base) t) (((ps.zip vs).foldl (λt x=>t.setIfInBounds x.1 x.2) T).getD t undef)
 |[],_,_,T,base,d,_,_,_,_=>λt=>d t
 |p::ps,[],_,T,base,_,_,h1,_,_=>by simp at h1
 |p::ps,av::avs,[],T,base,_,_,_,c,_=>by simp at c
 |p::ps,av::avs,v::vs,T,base,d,g,h1,c,m=>by
  simp only[zip_cons_cons,cO];refine y1j ps avs vs _ _ (λt=>?_) (λq u=>by rw[bG];exact g q (aY _ u)) (by simpa using h1) (by simpa using c) (λi hi=>by have:=m (i+1) (by simpa using hi);simpa using this);have a:=g p (bW ..);simp only[lkV];cases j:aE p t with
  |true =>
   have:=aB j;subst this;have h:=m 0 Δ;simp only[bF,getD_cons_zero]at h;simpa[a]using h
  |false =>
   have b:p≠t:=aR j;have e:(T.setIfInBounds p v).getD t undef=T.getD t undef:=by
    rw[aA,aT b,<-aA]
   rw[e];exact d t
theorem zxq:∀(l:List (Nat×Value)) (T:Array Value),(l.foldl (λt x=>t.setIfInBounds x.1 x.2) T).size=T.size
 |[],T=>rfl
 |x::l,T=>by rw[cO,zxq l,bG]
theorem zr7 {t:Nat}:∀(l:List (Nat×Value)) (T:Array Value),(∀x∈l,x.1≠t)->(l.foldl (λt x=>t.setIfInBounds x.1 x.2) T).getD t undef=T.getD t undef
 |[],T,_=>rfl
 |x::l,T,h=>by
  rw[cO,zr7 l _ (λy a=>h y (aY _ a)),aA,aT (h x (bW ..)),<-aA]
def y1g (ps:List Nat)(args ycaps:List AV)(me:List (Nat×Ent)):AS:=⟨(ps.zip args).foldl (λtm x=>x::tm) (ycaps.zipIdx.map λp=>(p.2,p.1)),me⟩
inductive BX (E:Env) (nt:Nat) (ycaps:List AV) (me:List (Nat×Ent)) (σ:AS) (me':List (Nat×Ent)):Prop
 |mk (τ:AS) (hl:LeX E nt σ τ) (hme:τ.me=me') (hb:boxB E.np ycaps τ me me' []=true)
def EndB (E:Env)(nt:Nat)(ycaps:List AV)(me me':List (Nat×Ent)):Exit->AS->Prop |.normal,σ=>BX E nt ycaps me σ me' |_,_=>False
theorem StG.putObjW {cx:Cx}{a:Act}(h:StG cx γ σ a w){r:Nat}{o o':Obj}(j:w.heap[r]? = some o)(H:o.isCells=false)(M:cx.w0.heap.size<=r)(q:¬own γ r)(C:a.defers=[])(m:cx.E.yl=none)(p:∀es c,o≠.map es c:=by intro es c h;cases h):StG { cx with w1:=w.putObj r o' } γ σ a (w.putObj r o'):=by
 have z:=y2x (k:=0) j H;have g:∀es c,w.heap[r]? ≠ some (.map es c):=λes c h=>by rw[j]at h;injection h with h;exact p es c h
 have u:∀b,own γ b->b≠r:=λb d e=>q (e▸d)
 refine⟨λt=>(h.tm t).putObj z g,λid=>?_,h.inj,λb d=>by rw[Cz];exact h.ge b d,h.below.trans ⟨rfl,rfl,rfl,by rw[Cz];exact aD _,λb d=>Cj Ω⟩,h.size,
  ⟨λ_=>C,⟨[],C,.nil,λr j=>by cases j⟩,h.defers.pin,λl R I=>absurd (m.symm.trans I) Δ,aD _⟩,λb d=>by rw[Cz];exact h.gh b d,λb d=>?_,h.dr⟩
 ·have:=h.me id;cases B:σ.find id with
  |none=>rw[B]at this;exact this
  |some e =>
   rw[B]at this;obtain⟨x,v,J⟩:=this;exact⟨x,v,J.putObj z g (λb d=>u b ⟨id,x,v,d⟩)⟩
 ·obtain⟨G,D,L⟩:=h.fr b d;exact⟨G,by rw[Cz];exact D,rfl⟩
variable {ycaps:List AV}
theorem ConG.round {ps:Array Tmp}{assign body:Code}(ab:E.rg=false)(v:E.yl=none)(bg:E.dr=false)(bc:ps.toList.all (λp=>bK E.np p && cN p nt)=true)(H:args.length=ps.size)(bt:bK ycaps.length nt=true)
  (h:AW E nt (Cv (λσ=>AW E nt (EndB E nt ycaps me me') [.code body] .normal σ) (λ_ _=>False)) [.code assign] .normal (y1g ps.toList args ycaps me))
  (l D:Nat) (fn:FuncId) (T:Array Value) (hT:T.size=nt):ConG E.P (some (l,.loop (recR fn T ps assign body D))) (λvs cs w R=>cs=T->CalY E.P l vs cs w R) args ycaps me (.bool true) me':=by
 intro cx γ w vs cs hP av ay aq ar c aj ba ad bj;subst bj;have X:=ay _ rfl;obtain⟨q0,q1,q2,q3⟩:=c.defers.yl l _ X;refine⟨fn,_,assign,body,run_yield (P:=E.P) (args:=vs) q3 (by rw[aj,H]),roundIn_of_wpIn trivial ?_⟩;have ef:(ps.zip vs).foldl (λ(t:Array Value) (x:Tmp×Value)=>t.setIfInBounds x.1 x.2) cs=(ps.toList.zip vs.toList).foldl (λt x=>t.setIfInBounds x.1 x.2) cs:=by
  rw[<-Array.foldl_toList,Array.toList_zip]
 obtain⟨tm,O⟩:∃tm,tm=(ps.toList.zip vs.toList).foldl (λt x=>t.setIfInBounds x.1 x.2) cs:=⟨_,rfl⟩;have etm:(ps.zip vs).foldl (λ(t:Array Value) (x:Tmp×Value)=>t.setIfInBounds x.1 x.2) cs=tm:=by rw[ef,O]
 show assign.wpIn (Fence.wide.inRound l) 0 E.P _ { tmps:=(ps.zip vs).foldl (λ(t:Array Value) (x:Tmp×Value)=>t.setIfInBounds x.1 x.2) cs,defers:=[] } w;rw[etm];have Y:∀p∈ps.toList,E.np<=p/\p<nt:=λp hp=>by
  have:=bE.1 bc p hp;simpa using this
 let cxa:Cx:=⟨E,cx.S0,cx.w0,nt,λb=>b<w.heap.size/\¬own γ b,w,some l,cs,λh=>absurd (ab.symm.trans h) Δ⟩;have bb:StG cxa γ (y1g ps.toList args ycaps me) { tmps:=tm,defers:=[] } w:=by
  refine⟨λt=>?_,c.me,c.inj,c.ge,c.below,by rw[O];exact(zxq _ _).trans hT,⟨λ_=>rfl,⟨[],rfl,.nil,λr hr=>by cases hr⟩,λt z=>?_,λl R hl=>absurd (v.symm.trans hl) Δ,aD _⟩,c.gh,λb hb=>⟨hb.2,hb.1,rfl⟩,λhd=>absurd (bg.symm.trans hd) Δ⟩
  ·rw[O];refine y1j ps.toList args vs.toList cs _ (λt=>?_) (λp hp=>by rw[hT];exact(Y p hp).2) (by simpa using H) (by simp[aj,H]) (λi hi=>?_) t
   ·rw[zoo];by_cases z:0<=t/\t<0+ycaps.length
    ·rw[dif_pos z];exact ad t Ω
    ·rw[dif_neg z];exact .any _
   ·have:=ba i hi
    rwa [aA,<-bN,<-aC]at this
  ·show tm.getD t undef=cs.getD t undef;rw[O];exact zr7 _ _ (λx hx e=>by have:=(Y x.1 (of_mem_zip hx).1).1;have bs:t<E.np:=z;omega)
 have hA:WP cxa assign (Cv (λσ=>AW E nt (EndB E nt ycaps me me') [.code body] .normal σ) (λ_ _=>False)) (y1g ps.toList args ycaps me):=bJ (h.out cxa rfl rfl) λe σ hk=>by cases e<;>exact hk
 refine wpIn_mono (F:=Fence.wide.inRound l) (hA _ _ ⟨γ,bb⟩) (λe a1 w1 ⟨ag,ap,am⟩=>?_);cases e with
 |normal =>
  obtain⟨ax,C⟩:=am;obtain⟨k1,k2,k3⟩:=C.fr l ⟨q1,q2⟩;have k4:w1.heap[l]? = some (.loop (recR fn cs ps assign body D)):=k3.trans q3;refine⟨_,run_beginRound (P:=E.P) k4 rfl,?_⟩;have an:=C.putObjW (o':=.loop { recR fn cs ps assign body D with state:=.busy }) k4 rfl q0 k1 (C.defers.d0 ab) v;generalize aa:w1.putObj l (.loop { recR fn cs ps assign body D with state:=.busy })=Z at an ⊢;have hB:WP { cxa with w1:=Z } body (EndB E nt ycaps me me') ag:=bJ ((show AW E nt (EndB E nt ycaps me me') [.code body] .normal ag from ap).out { cxa with w1:=Z } rfl rfl) λe σ hk=>by cases e<;>exact hk
  refine wpIn_mono (F:=Fence.wide.inRound l) (hB _ _ ⟨ax,an⟩) (λU a2 I ⟨bl,ao,al⟩=>?_);cases U with
  |normal =>
   obtain⟨τ,hl,G,aw⟩:=ao;obtain⟨ah,a⟩:=hl { cxa with w1:=Z } rfl rfl a2 I al;have bk:Z.heap[l]? = some (.loop { recR fn cs ps assign body D with state:=.busy }):=by rw[<-aa];exact World.putObj_heap_same k2
   obtain⟨j1,j2,j3⟩:=a.fr l ⟨q1,q2⟩;have j4:I.heap[l]? = some (.loop { recR fn cs ps assign body D with state:=.busy }):=j3.trans bk;refine⟨_,_,run_endRound (P:=E.P) none j4,?_⟩;have j:=a.putObjW (o':=.loop (recR fn cs ps assign body D)) j4 rfl q0 j1 (a.defers.d0 ab) v;show∃u γ',_/\_;have az:I.putObj l (.loop { { recR fn cs ps assign body D with state:=.busy }with state:=if(none:Option Code).isNone=true then LoopState.ready else LoopState.done,pending:=none })=I.putObj l (.loop (recR fn cs ps assign body D)):=rfl;rw[az];have ac:(I.putObj l (.loop (recR fn cs ps assign body D))).heap[l]? = some (.loop (recR fn cs ps assign body D)):=World.putObj_heap_same j2;generalize ai:I.putObj l (.loop (recR fn cs ps assign body D))=w4 at j ac ⊢;have z1:w.heap.size<=w1.heap.size:=C.defers.sz;have z2:w1.heap.size=Z.heap.size:=by rw[<-aa,Cz]
   have z3:Z.heap.size<=I.heap.size:=a.defers.sz;have z4:I.heap.size=w4.heap.size:=by rw[<-ai,Cz]
   have au:∀b,¬own γ b->b<w.heap.size->w4.heap[b]? = w.heap[b]? /\ ¬own ah b:=λb hb m=>by
    obtain⟨q,p2,p3⟩:=C.fr b ⟨m,hb⟩;obtain⟨J,W,r3⟩:=a.fr b ⟨m,hb⟩;refine⟨?_,J⟩;by_cases ae:b=l
    ·subst ae;exact ac.trans q3.symm
    ·have e1:w4.heap[b]? = I.heap[b]? := by rw[<-ai];exact Cj ae
     have U:Z.heap[b]? = w1.heap[b]? := by rw[<-aa];exact Cj ae
     exact e1.trans (r3.trans (U.trans p3))
   refine⟨.bool true,ah,rfl,⟨λt=>.any _,λi=>by have:=j.me i;unfold aM at this ⊢;rw[<-G];exact this,j.inj,j.ge,j.below,aq.symm,⟨λ_=>rfl,⟨[],rfl,.nil,λr hr=>by cases hr⟩,λt z=>by rw[ar]at z;omega,λl' R' Q=>?_,cP c.defers.sz Ω⟩,j.gh,λb hb=>?_,λhd=>absurd (av.symm.trans hd) Δ⟩,.bool _,Ω,λi B=>?_,au⟩
   ·rw[X]at Q;injection Q with Q
    injection Q with e1 U
    subst e1 U;exact⟨q0,Ω,j1,ac⟩
   ·obtain⟨q,p2,p3⟩:=c.fr b hb;obtain⟨J,W⟩:=au b q p2;exact⟨W,Ω,J.trans p3⟩
   ·unfold Ie at B;split at B;rotate_left
    ·rename_i ty sz xs e hi he;obtain⟨t,bq,br,bm,z,e1,U,rfl⟩:=zzo aw hi he;obtain⟨m,af⟩:=List.getElem?_eq_some_iff.1 e1;have J:=ad t m;rw[af]at J;have W:=a.tm t;rw[U,a.defers.pin t z]at W;have M:=c.me i;unfold aM at M;rw[hi]at M;obtain⟨x,hx,M⟩:=M;have L:=a.me i;unfold aM at L;rw[G,he]at L;obtain⟨x2,N,L⟩:=L;exact zxr J W hx N M L
    ·cases B
    rename_i ty es hi;have d:=bE.1 aw (i,.box ty es) (Ue hi);have d:=(cM _ _).mp d;rcases d with d|d
    ·cases d
    obtain⟨t,z,ak⟩:=bR.1 d;rw[cG]at z;rw[bI]at ak;obtain⟨b1,b2⟩:=ak;split at b1
    ·rename_i k hk;have e1:k=i:=aB b1;subst e1;split at b2
     ·rename_i k2 bp bu bf bd;have U:k2=k:=aB b2;subst U;obtain⟨m,af⟩:=List.getElem?_eq_some_iff.1 hk;have J:=ad t m;rw[af]at J;have W:=a.tm t;rw[bf,a.defers.pin t z]at W;have M:=c.me k2;unfold aM at M;rw[hi]at M;obtain⟨x,hx,g,bo,bi,_⟩:=M;have L:=a.me k2;unfold aM at L;rw[G,bd]at L;obtain⟨x2,N,g2,bn,bh,_⟩:=L;subst bi bh;have q:=J.ptr_inv hx;have p2:cs.getD t undef=_:=W.ptr_inv N;rw[p2]at q;injection q with q
      injection q with q
      injection q with q
      rw[hx,N,q]
     ·cases b2
    ·cases b1
  |_=>exact ao.elim
 |_=>exact ap.elim
abbrev fd (n:Nat):Nat×Nat×Option Bool:=(n,1,some false)
def tab:List (Nat×TyI):=[(3,⟨1,8,.int .i64 0,.int .i64⟩),(4,⟨1,1,.bool false,.bool⟩),(5,⟨1,1,.int .u8 0,.int .u8⟩),(9,⟨1,16,.string ByteArray.empty,.str⟩),(22,⟨1,24,.slice none 0 0,.slc 99 2 40⟩),(23,⟨1,24,.slice none 0 0,.slc 140 1 24⟩),(24,⟨1,24,.slice none 0 0,.slc 149 17 240⟩),(26,⟨4,64,.agg #[.int .i64 0,.int .i64 0,.slice none 0 0,.slice none 0 0],.strct [fd 0,fd 1,fd 2,fd 3]⟩),(28,⟨6,96,.agg #[.slice none 0 0,.int .i64 0,.int .i64 0,.slice none 0 0,.slice none 0 0,.int .i64 0],.strct [fd 0,(1,4,some true),fd 5]⟩),(29,⟨1,24,.slice none 0 0,.slc 37 5 56⟩),(35,⟨1,24,.slice none 0 0,.slc 144 3 32⟩),(37,⟨5,56,.agg #[.int .i64 0,.int .i64 0,.int .i64 0,.int .i64 0,.slice none 0 0],.strct [fd 0,fd 1,fd 2,fd 3,fd 4]⟩),(39,⟨4,48,.agg #[.int .i64 0,.int .i64 0,.slice none 0 0,.int .i64 0],.strct [fd 0,fd 1,fd 2,fd 3]⟩),(40,⟨1,8,.int .i64 0,.int .i64⟩),(43,⟨1,24,.slice none 0 0,.slc 3 1 8⟩),(44,⟨1,24,.slice none 0 0,.slc 4 1 1⟩),(49,⟨1,24,.slice none 0 0,.slc 90 3 56⟩),(50,⟨1,24,.slice none 0 0,.slc 64 1 24⟩),(55,⟨1,24,.slice none 0 0,.slc 49 1 24⟩),(57,⟨1,24,.agg #[.slice none 0 0],.strct [fd 0]⟩),(62,⟨1,24,.slice none 0 0,.slc 93 4 32⟩),(64,⟨1,24,.agg #[.slice none 0 0],.strct [fd 0]⟩),(68,⟨1,8,.nilFunc,.other⟩),(86,⟨3,24,.agg #[.int .i64 0,.int .i64 0,.int .i64 0],.strct [fd 0,fd 1,fd 2]⟩),(88,⟨1,24,.slice none 0 0,.slc 182 2 16⟩),(90,⟨3,56,.agg #[.int .i64 0,.slice none 0 0,.slice none 0 0],.strct [fd 0,fd 1,fd 2]⟩),(93,⟨4,32,.agg #[.int .i64 0,.int .i64 0,.int .i64 0,.int .i64 0],.strct [fd 0,(1,3,some true)]⟩),(95,⟨1,8,.nilFunc,.other⟩),(97,⟨1,24,.slice none 0 0,.slc 164 2 24⟩),(99,⟨2,40,.agg #[.string ByteArray.empty,.slice none 0 0],.strct [fd 0,fd 1]⟩),(111,⟨5,88,.agg #[.slice none 0 0,.int .i64 0,.int .i64 0,.slice none 0 0,.slice none 0 0],.strct [fd 0,(1,4,some true)]⟩),(112,⟨1,8,.map none,.map 3 4⟩),(113,⟨1,8,.map none,.map 3 4⟩),(115,⟨1,8,.nilFunc,.other⟩),(119,⟨2,16,.agg #[.map none,.map none],.strct [fd 0,fd 1]⟩),(121,⟨1,24,.slice none 0 0,.slc 112 1 8⟩),(128,⟨1,8,.pointer none,.other⟩),(135,⟨1,8,.map none,.map 86 4⟩),(138,⟨1,24,.slice none 0 0,.slc 216 11 112⟩),(140,⟨1,24,.agg #[.slice none 0 0],.strct [fd 0]⟩),(142,⟨1,24,.slice none 0 0,.slc 146 8 88⟩),(144,⟨3,32,.agg #[.int .i64 0,.int .i64 0,.string ByteArray.empty],.strct [fd 0,fd 1,fd 2]⟩),(146,⟨8,88,.agg #[.int .i64 0,.slice none 0 0,.int .i64 0,.int .i64 0,.int .i64 0,.int .i64 0,.int .i64 0,.string ByteArray.empty],.strct [fd 0,fd 1,fd 2,fd 3,fd 4,(5,3,some true)]⟩),(147,⟨1,24,.slice none 0 0,.slc 230 2 16⟩),(149,⟨17,240,.agg #[.int .i64 0,.int .i64 0,.int .i64 0,.int .i64 0,.int .i64 0,.slice none 0 0,.int .i64 0,.int .i64 0,.int .i64 0,.int .i64 0,.int .i64 0,.string ByteArray.empty,.slice none 0 0,.slice none 0 0,.slice none 0 0,.slice none 0 0,.slice none 0 0],.strct [fd 0,fd 1,fd 2,fd 3,(4,8,some true),fd 12,fd 13,fd 14,fd 15,fd 16]⟩),(151,⟨1,8,.nilFunc,.other⟩),(155,⟨1,8,.nilFunc,.other⟩),(158,⟨1,8,.nilFunc,.other⟩),(159,⟨1,8,.nilFunc,.other⟩),(160,⟨1,8,.nilFunc,.other⟩),(164,⟨2,24,.agg #[.string ByteArray.empty,.int .i64 0],.strct [fd 0,fd 1]⟩),(169,⟨1,24,.slice none 0 0,.slc 44 1 24⟩),(173,⟨1,24,.slice none 0 0,.slc 43 1 24⟩),(182,⟨2,16,.agg #[.int .i64 0,.int .i64 0],.strct [fd 0,fd 1]⟩),(190,⟨1,8,.nilFunc,.other⟩),(202,⟨1,8,.map none,.map 86 37⟩),(204,⟨5,72,.agg #[.int .i64 0,.int .i64 0,.slice none 0 0,.slice none 0 0,.map none],.strct [(0,4,some true),fd 4]⟩),(206,⟨1,8,.nilFunc,.other⟩),(211,⟨1,8,.nilFunc,.other⟩),(216,⟨11,112,.agg #[.int .i64 0,.int .i64 0,.int .i64 0,.int .i64 0,.slice none 0 0,.int .i64 0,.int .i64 0,.int .i64 0,.int .i64 0,.int .i64 0,.string ByteArray.empty],.strct [fd 0,fd 1,fd 2,(3,8,some true)]⟩),(220,⟨1,8,.nilFunc,.other⟩),(230,⟨2,16,.agg #[.int .i64 0,.int .i64 0],.strct [fd 0,fd 1]⟩),(250,⟨1,8,.map none,.map 9 4⟩),(253,⟨1,8,.nilFunc,.other⟩),(254,⟨1,8,.nilFunc,.other⟩),(258,⟨1,8,.nilFunc,.other⟩),(264,⟨1,8,.map none,.map 267 4⟩),(267,⟨2,16,.agg #[.int .i64 0,.int .i64 0],.strct [fd 0,fd 1]⟩),(269,⟨1,24,.slice none 0 0,.slc 29 1 24⟩),(271,⟨1,24,.agg #[.slice none 0 0],.strct [fd 0]⟩),(278,⟨1,8,.nilFunc,.other⟩),(281,⟨1,8,.int .u64 0,.int .u64⟩),(282,⟨1,8,.nilFunc,.other⟩),(285,⟨1,8,.nilFunc,.other⟩),(291,⟨1,8,.nilFunc,.other⟩),(305,⟨1,8,.nilFunc,.other⟩),(308,⟨1,8,.int .i64 0,.int .i64⟩),(318,⟨16,16,.agg #[.bool false,.bool false,.bool false,.bool false,.bool false,.bool false,.bool false,.bool false,.bool false,.bool false,.bool false,.bool false,.bool false,.bool false,.bool false,.bool false],.arr 16 4 1 (some false)⟩),(332,⟨1,8,.nilFunc,.other⟩),(336,⟨1,8,.nilFunc,.other⟩),(344,⟨1,8,.int .u64 0,.int .u64⟩),(348,⟨1,8,.pointer none,.other⟩),(356,⟨1,8,.map none,.map 3 368⟩),(359,⟨8,96,.agg #[.slice none 0 0,.int .i64 0,.int .i64 0,.int .i64 0,.int .i64 0,.int .i64 0,.slice none 0 0,.map none],.strct [(0,1,some true),fd 1,(2,5,some true),fd 7]⟩),(367,⟨1,8,.nilFunc,.other⟩),(368,⟨1,8,.nilFunc,.other⟩),(381,⟨5,48,.agg #[.int .i64 0,.int .i64 0,.int .i64 0,.int .i64 0,.string ByteArray.empty],.strct [fd 0,fd 1,(2,3,some true)]⟩),(389,⟨1,8,.nilFunc,.other⟩),(395,⟨1,8,.nilFunc,.other⟩),(396,⟨6,48,.agg #[.nilFunc,.nilFunc,.nilFunc,.nilFunc,.nilFunc,.nilFunc],.arr 6 395 1 (some false)⟩)]
def y7b (P:Program):List (Nat×TyI)->Prop |[]=>True |(t,i)::r=>TyOk P t i/\y7b P r
theorem y7b.get {P:Program}:∀{l:List (Nat×TyI)},y7b P l->∀T i,lkT l T=some i->TyOk P T i
 |[],_,T,i,h=>by simp[lkT]at h
 |(t,j)::r,a,T,i,h=>by
  simp only[lkT]at h;split at h
  ·rename_i b;have:=aB b;subst this;injection h with h
   subst h;exact a.1
  ·exact a.2.get T i h
set_option maxRecDepth 100000 in
theorem y8f:y7b Tryz.prog tab:=by repeat' first|exact trivial|refine⟨⟨by kernel_rfl,by kernel_rfl,by kernel_rfl⟩,?_⟩
theorem Da (T:Nat)(i:TyI)(h:lkT tab T=some i):TyOk Tryz.prog T i:=y8f.get T i h
noncomputable def E0:Env:=⟨Tryz.prog,tab,λT i h=>y8f.get T i h,by kernel_rfl,false,false,none,0,false⟩
noncomputable def E0d:Env:=⟨Tryz.prog,tab,λT i h=>y8f.get T i h,by kernel_rfl,true,false,none,0,false⟩
theorem Ax (b : E0.P.funcs[f]? = some fn)(a : (fn.name == "runtime.NumGoroutine") = false)(c : fn.body.isNone = false) : Cd E0 f := fun args w => by
 unfold callFunc;simp only [Sem.run_bind,run_program,Result.andThen_ok,b,a,c,bC,if_false,Sem.run_pure]
open Go.RowKit
noncomputable def E0p (np:Nat):Env:={ E0 with np:=np }
noncomputable def E0y (l:Nat)(R:Obj)(np:Nat):Env:={ E0 with np:=np,yl:=some (l,R) }
noncomputable def E0r:Env:={ E0 with rg:=true }
theorem ConG.up {P:Program}{yl:Option (Nat×Obj)}{C:CalT}{caps:List AV}(h:ConG P none C args caps me res me'):ConG P yl C args caps me res me' :=
 λcx γ w vs cs h1 b _=>h cx γ w vs cs h1 b (λx a=>by cases a)
variable {avs:List AV}
theorem Con.env {E':Env}{fr:Bool}(b:E'.P=E.P)(c:E'.dr=false)(h:Con E fr f avs res):Con E' fr f avs res:=by
 refine⟨by have:=h.1;unfold Cd at *;rw[b];exact this,λS w vs d=>?_⟩;have:=h.2 S w vs d;rw[b];exact this.mono λe w' ⟨v,h1,⟨j,_⟩,g⟩=>⟨v,h1,⟨j,λa=>absurd (c.symm.trans a) Δ⟩,g⟩
theorem ConT.env {E':Env}(a:E'.P=E.P)(h:ConT E f avs ty sz xs res):ConT E' f avs ty sz xs res:=by
 refine⟨by have:=h.1;unfold Cd at *;rw[a];exact this,h.2.1,λS w vs b=>?_⟩;rw[a];exact h.2.2 S w vs b
section
variable {α β:Type}
variable {k:α->Option β}{r:β}{find:Nat->Option Ent}{KR:AV->List Nat->List (Nat×Ent)->Prop}
theorem Ab.oM {o:Option α}{K:AV->Prop}{R:Nat->Nat->List AV->AV->Prop}(h:bnd o k=some r)
  (ps ps':List (Nat×Nat)) (cargs:List AV) (me:List (Nat×Ent)) (meF:α->List (Nat×Ent)) (resF:α->AV) (dead:List Nat) (q:∀a,o=some a->ConG E.P E.yl (CalF E.P f 0) cargs [] me (resF a) (meF a)) (p:Cd E f) (b:E.dr=false) (c:bS (rho ps) cargs=avs) (g:bT (me.map (·.1)) cargs=true) (d:LeF find (rho ps) (me.map (·.1)) me)
  (m:∀a,D9 find (rho ps) (rho ps') me (meF a) (resF a) dead) (j:∀a,k a=some r->KR ((resF a).ren (rho ps')) (idsG (rho ps) (rho ps') me (meF a)) (wrG (rho ps') (meF a) dead)):Ab E f avs K R find KR:=by
 cases o with
 |none=>unfold bnd at h;cases h
 |some a=>exact .memo ps ps' cargs me (meF a) (resF a) dead p b (q a rfl) c g d (m a) (j a (by unfold bnd at h;exact h))
theorem B5.oM {o:Option α}{raw:List AV}{K:AV->Prop}{dst:Option Nat}(h:bnd o k=some r)
  (ps ps':List (Nat×Nat)) (cargs:List AV) (me:List (Nat×Ent)) (meF:α->List (Nat×Ent)) (resF:α->AV) (dead:List Nat) (q:∀a,o=some a->ConG E.P E.yl (CalF E.P f 0) cargs [] me (resF a) (meF a)) (p:Cd E f) (b:E.dr=false) (c:bS (rho ps) cargs=raw) (g:bT (me.map (·.1)) cargs=true) (d:LeF find (rho ps) (me.map (·.1)) me)
  (m:∀a,D9 find (rho ps) (rho ps') me (meF a) (resF a) dead) (j:∀a,k a=some r->KR ((resF a).ren (rho ps')) (idsG (rho ps) (rho ps') me (meF a)) (wrG (rho ps') (meF a) dead)):B5 E f avs K raw find dst KR:=by
 cases o with
 |none=>unfold bnd at h;cases h
 |some a=>exact .memo ps ps' cargs me (meF a) (resF a) dead p b (q a rfl) c g d (m a) (j a (by unfold bnd at h;exact h))
theorem YldX.oM {o:Option α}{l:Nat}{T:Array Value}{raw c:List AV}(h:bnd o k=some r)
  (ps ps':List (Nat×Nat)) (cargs ccaps:List AV) (me:List (Nat×Ent)) (meF:α->List (Nat×Ent)) (resF:α->AV) (dead:List Nat) (u:∀a,o=some a->ConG E.P E.yl (λvs cs w R=>cs=T->CalY E.P l vs cs w R) cargs ccaps me (resF a) (meF a)) (b:E.dr=false) (g:bS (rho ps) cargs=raw) (d:bS (rho ps) ccaps=c) (p:bT (me.map (·.1)) cargs=true) (m:bT (me.map (·.1)) ccaps=true) (j:LeF find (rho ps) (me.map (·.1)) me)
  (t:∀a,D9 find (rho ps) (rho ps') me (meF a) (resF a) dead) (q:∀a,k a=some r->KR ((resF a).ren (rho ps')) (idsG (rho ps) (rho ps') me (meF a)) (wrG (rho ps') (meF a) dead)):YldX E l T raw c find KR:=by
 cases o with
 |none=>unfold bnd at h;cases h
 |some a=>exact .mk ps ps' cargs ccaps me (meF a) (resF a) dead b (u a rfl) g d p m j (t a) (q a (by unfold bnd at h;exact h))
theorem RngX.oM {o:Option α}{gf:Nat}{g:List AV}{ps:Array Tmp}{a b:Code}{K:AS->Prop}(h:bnd o k=some r)
  (pp c:List (Nat×Nat)) (ycaps ccaps:List AV) (me:List (Nat×Ent)) (meF:α->List (Nat×Ent)) (dead:List Nat)
  (d:∀x,o=some x->∀(l D:Nat) (fn:FuncId) (T:Array Value),T.size=nt->ConG E.P (some (l,.loop (recR fn T ps a b D))) (CalF E.P gf 0) (.yld l T ycaps::ccaps) [] me (.tup []) (meF x))
  (C:Cd E gf) (p:E.rg=true) (m:E.dr=false) (j:E.yl=none) (q:bS (rho pp) ccaps=g) (u:bT (me.map (·.1)) ccaps=true) (z:LeY σ (rho pp) (me.map (·.1)) 0 ycaps) (t:LeF σ.find (rho pp) (me.map (·.1)) me) (B:∀x,D9 σ.find (rho pp) (rho c) me (meF x) (.tup []) dead)
  (v:∀x,k x=some r->K (σ.upd none (.tup []) (wrG (rho c) (meF x) dead))):RngX E nt (.fn gf g) ps a b σ K:=by
 cases o with
 |none=>unfold bnd at h;cases h
 |some x=>exact .mk gf g rfl C p m j pp c ycaps ccaps me (meF x) dead q u z t (B x) (d x rfl) (v x (by unfold bnd at h;exact h))
variable {meF:α->List (Nat×Ent)}
theorem GX.o {x r:α}{res:α->AV}(h:some x=some r)(k:GX E nt fn args me σ (res x) (meF x)):GX E nt fn args me σ (res r) (meF r):=by
 injection h with h;subst h;exact k
theorem BX.o {x r:α}(h:some x=some r)(k:BX E nt ycaps me σ (meF x)):BX E nt ycaps me σ (meF r):=by
 injection h with h;subst h;exact k
end
open Go.RowKit
section
variable {β:Type} {E:Env} {nt:Nat} {o:Oper} {σ:AS} {K:OpK}
def idb (s:ByteArray)(n:Int)(k:Int->Option β):Option β:=if 0<=n then(match Uj s n.toNat with|some b=>k b.toNat|none=>none)else none
theorem OpX.idb {s:ByteArray}{n:Int}{k:Int->Option β}{r:β}{T:Nat}{x y:Operand}{i:TyI}(a:idb s n k=some r)(q:o.op=.index T x y)(u:dokN E nt o.dst=true)(d:A6 x=true)(c:A6 y=true)(p:σ.eval x=.str s)(j:σ.eval y=.int kd n)(z:lkT E.tab T=some i)
  (hs:i.shape=.str) (t:∀b,k b=some r->K (.int .u8 b) [] []):OpX E nt o σ K:=by
 unfold Proofs.YthbogefcfhmpgaaGreat.idb at a;split at a
 ·rename_i B;split at a
  ·rename_i b v;exact .mk _ _ _ (λcx h g=>zvm (m:=n.toNat) q (Aq u h g) d c p j (by rw[h];exact z) hs Ω v) (t _ a)
  ·cases a
 ·cases a
variable {α:Type}
def bld (l:List α)(k:List α->Option β):Option β:=k l
variable {k:List α->Option β}
theorem OpX.bld {l:List α}{r:β}(enc:α->AV){T d e esz eb:Nat}{ps:Array (Nat×Operand)}{i ie:TyI}(J:bld l k=some r)(v:o.op=.buildSlice T n ps)(b:o.dst=some d)(H:dokN E nt o.dst=true)(I:lkT E.tab T=some i)(hs:i.shape=.slc e esz eb)(G:lkT E.tab e=some ie)(u:aE esz 0=false)(z:bK (n*esz) 16777216=true)
  (c:D8 ie.zero.cells.toList=true) (g:cN 0 ie.zero.cells.size=true) (h:Fp σ ps=true) (q:bX (l.map enc)=true) (a:(l.map enc).length=n) (B:(l.map enc).all (λx=>aE x.cells.length esz)=true)
  (D:Dh (λj=>some (j*esz,esz)) (aG (n*esz) .any) (Ct σ ps)=some ((l.map enc).flatMap bB)) (p:σ.find d=none) (C:∀l',k l'=some r->K (.row d) (d::Fq (Ct σ ps)) [(d,.row e esz (l'.map enc))]):OpX E nt o σ K :=
 .mk _ _ _ (λcx t m=>zaw v b (Aq H t m) (by rw[t];exact I) hs (by rw[t];exact G) (nbne u) z (Fk c) g h q a B D p) (C l J)
def bldS (l:List α)(k:List α->Option β):Option β:=k l
theorem OpX.bldS {l:List α}{r:β}(enc:α->AV){T e esz eb:Nat}{ps:Array (Nat×Operand)}{i ie:TyI}(G:Proofs.YthbogefcfhmpgaaGreat.bldS l k=some r)(q:o.op=.buildSlice T n ps)(C:dokN E nt o.dst=true)(D:lkT E.tab T=some i)(hs:i.shape=.slc e esz eb)(B:lkT E.tab e=some ie)(p:aE esz 0=false)(t:bK (n*esz) 16777216=true)
  (b:D8 ie.zero.cells.toList=true) (c:cN 0 ie.zero.cells.size=true) (d:Fp σ ps=true) (h:bX (l.map enc)=true) (a:(l.map enc).length=n) (u:(l.map enc).all (λx=>aE x.cells.length esz)=true)
  (z:Dh (λj=>some (j*esz,esz)) (aG (n*esz) .any) (Ct σ ps)=some ((l.map enc).flatMap bB)) (v:∀l',k l'=some r->K (.sl esz (l'.map enc)) (Fq (Ct σ ps)) []):OpX E nt o σ K :=
 .mk _ _ _ (λcx m g=>zhb q (Aq C m g) (by rw[m];exact D) hs (by rw[m];exact B) (nbne p) t (Fk b) c d h a u z) (v l G)
end
end Go.Proofs.YthbogefcfhmpgaaGreat
