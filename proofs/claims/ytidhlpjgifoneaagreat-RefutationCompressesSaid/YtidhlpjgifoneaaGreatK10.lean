/- The abstract walk. -/
import Derived.Test.YtidhlpjgifoneaaGreatK09
import Derived.RangeFuncNested
set_option linter.unusedVariables false
set_option linter.unusedSimpArgs false
namespace Go.Proofs.YtidhlpjgifoneaaGreat
open Go.RowKit List
open Nat renaming eq_of_beq_eq_true->aA,le_refl->aC,beq->aL,not_lt_zero->aQ
open Or renaming inr->aB,inl->aE
open AV renaming renL_length->aD,renL->aV,inML->aW,renL_at->aX,inML_at->aY
open _root_.Array renaming getD_eq_getD_getElem?->aF,append_empty->aS,getD->aT
open List renaming mem_map->aG,mem_map_of_mem->aH,all_eq_true->aJ,mem_append_left->aK,mem_append_right->aO,mem_filterMap->aR,any_eq_true->aU,nil_append->aZ
open Option renaming toList_none->aM
open Bool renaming not_eq_true'->aN,or_eq_true->aP
abbrev MeSt (cx:Cx)(γ:Gam)(me:List (Nat×Ent))(w:World):Prop:=StG cx γ ⟨[],me⟩ ⟨#[],[]⟩ w
def Cx.sub (cx:Cx)(γ γc:Gam)(w:World):Cx:=⟨{ cx.E with np:=0 },fun b=>cx.S0 b\/(own γ b/\¬own γc b),cx.w0,0,fun _=>False,w,none,#[],fun _=>rfl⟩
def memL (ρ:Nat->Nat)(ids:List Nat)(j:Nat):Option Nat:=ids.find? fun i=>aL (ρ i) j
variable {ρ:Nat->Nat}{ids:List Nat}{j:Nat}
theorem Nx {i:Nat}(h:memL ρ ids j=some i):i∈ids/\ρ i=j:=by
 have h1:=mem_of_find?_eq_some h;have b:=find?_some h;exact ⟨h1,aA b⟩
theorem zy4 (h:memL ρ ids j=none):∀ i∈ids,ρ i≠j:=fun i hi e=>by
 have:=find?_eq_none.1 h i hi;simp [e] at this
theorem zy5 {i:Nat}(b:injB ρ ids=true)(hi:i∈ids):memL ρ ids (ρ i)=some i:=by
 cases h:memL ρ ids (ρ i) with
 |none=>exact absurd rfl (zy4 h i hi)
 |some k =>
  obtain ⟨h1,d⟩:=Nx h;simp only [injB,aJ,aP,aN] at b;rcases b k h1 i hi with c|c
  ·rw [d] at c;simp at c
  ·rw [aA c]
section
variable {cx:Cx} {γ:Gam} {τ:AS} {a:Act} {w:World}
theorem StG.own_ge (h:StG cx γ τ a w){b:Nat}(c:own γ b):cx.w0.heap.size<=b/\¬cx.S0 b/\b<w.heap.size:=⟨(h.ge b c).1.1,(h.ge b c).1.2,(h.ge b c).2⟩
variable {me:List (Nat×Ent)}
theorem StG.part (h:StG cx γ τ a w)(B:injB ρ (me.map (·.1))=true)(J:LeE τ ρ (me.map (·.1)) me) :
  ∃ γc:Gam,(∀ i∈me.map (·.1),γc i=γ (ρ i))/\(∀ i,i ∉ me.map (·.1)->γc i=none)/\(∀ b,own γc b->own γ b) /\
   (∀ b,Sg (Cx.sub cx γ γc w).S0 cx.w0.heap.size γc b ↔ Sg cx.S0 cx.w0.heap.size γ b)/\MeSt (Cx.sub cx γ γc w) γc me w:=by
 generalize G:me.map (·.1)=ids at *;have A:∀ i,lkE me i≠none ↔ i∈ids:=fun i=>by rw [O2,G]
 let γc:Gam:=fun i=>if i∈ids then γ (ρ i) else none
 have m:∀ i,i∈ids->γc i=γ (ρ i):=fun i hi=>if_pos hi
 have f:∀ i,i ∉ ids->γc i=none:=fun i hi=>if_neg hi
 have d:∀ b,own γc b->own γ b:=fun b ⟨i,s,hi,c⟩=>by
  by_cases hm:i∈ids
  ·rw [m i hm] at hi;exact ⟨_,s,hi,c⟩
  ·rw [f i hm] at hi;cases hi
 have y:∀ b,Sg (Cx.sub cx γ γc w).S0 cx.w0.heap.size γc b ↔ Sg cx.S0 cx.w0.heap.size γ b:=fun b=>by
  constructor
  ·rintro (⟨h1|⟨h1,_⟩,n⟩|⟨⟨h1,n⟩,M⟩)
   ·exact aE ⟨h1,n⟩
   ·have:=(h.own_ge h1).1;omega
   ·exact aB ⟨⟨h1,fun z=>n (aE z)⟩,fun z=>n (aB ⟨z,M⟩)⟩
  ·rintro (⟨h1,n⟩|⟨⟨h1,n⟩,M⟩)
   ·exact aE ⟨aE h1,n⟩
   ·exact aB ⟨⟨h1,fun z=>z.elim n (fun T=>M T.1)⟩,fun z=>M (d b z)⟩
 have E:∀ {g:Gam} {av v},Rep w (Sg cx.S0 cx.w0.heap.size γ) g av v->Rep w (Sg (Cx.sub cx γ γc w).S0 cx.w0.heap.size γc) g av v:=fun h=>h.mono (aC _) (fun b c _=>⟨rfl,(y b).2 c⟩)
 refine ⟨γc,m,f,d,y,fun t=>.any _,fun i=>?_,fun i j b s s' hi C mi mj=>?_,fun b c=>?_,h.below,rfl,⟨fun _=>rfl,⟨[],rfl,.nil,fun r D=>by cases D⟩,fun t W=>absurd W (aQ _),fun l R Y=>?_,aC _⟩,fun b c=>?_,fun b c=>c.elim,h.dr⟩
 ·rcases J.get i with I|⟨e,I,Z,hm⟩
  ·unfold AS.find;rw [I];have:i ∉ ids:=fun hi=>(A i).2 hi I
   exact if_neg this
  ·unfold AS.find;rw [I];have hi:i∈ids:=(A i).1 (by rw [I];simp);rw [m i hi];have:=h.me (ρ i);rw [Z] at this;obtain ⟨x,V,u⟩:=this;refine ⟨x,V,?_⟩;cases e with
   |box ty cs =>
    obtain ⟨g,vs,H,c,Q,D,q⟩:=u;simp only [Ent.inM] at hm;refine ⟨g,vs,H,c,by rw [Q,aD],fun k K=>E ((D k (by rw [aD];exact K)).ren m _ (aX _ _ _ _) (aY hm k K)),q⟩
   |row ty sz xs =>
    obtain ⟨s,vs,H,h1,d,F,D,q⟩:=u;exact ⟨s,vs,H,h1,d,F,fun k K j C=>E (D k K j C),q⟩
   |mp ps =>
    obtain ⟨g,H,hm⟩:=u;exact ⟨g,H,hm.move (aC _) (fun b c _=>⟨rfl,(y b).2 c⟩) rfl⟩
   |nest ty es=>exact Bq.nest_mono u (fun b c=>(y b).2 c)
   |mpn ps=>exact Bq.mpn_mono u (fun b c=>(y b).2 c)
   |are ty idx os=>exact u.gmono (fun _ _ h=>by cases h) (fun b c=>(y b).2 c)
   |it ps=>exact u.gmono (fun _ _ h=>by cases h) (fun b c=>(y b).2 c)
   |itp ps=>exact u.gmono (fun _ _ h=>by cases h) (fun b c=>(y b).2 c)
   |itc p ps=>exact u.gmono (fun _ _ h=>by cases h) (fun b c=>(y b).2 c)
   |dead=>exact u
 ·by_cases h1:i∈ids
  ·by_cases J:j∈ids
   ·rw [m i h1] at hi;rw [m j J] at C;have e:=h.inj _ _ _ _ _ hi C mi mj;simp only [injB,aJ,aP,aN] at B;rcases B i h1 j J with n|n
    ·rw [e] at n;simp at n
    ·exact aA n
   ·rw [f j J] at C;cases C
  ·rw [f i h1] at hi;cases hi
 ·obtain ⟨P,O,N⟩:=h.own_ge (d b c);exact ⟨⟨P,fun z=>z.elim O (fun T=>T.2 c)⟩,N⟩
 ·obtain ⟨U,P,O,N⟩:=h.defers.yl l R Y;exact ⟨U,P,fun X=>O (d l X),N⟩
 ·rcases c with c|⟨c,_⟩
  ·exact h.gh b c
  ·exact (h.own_ge c).2.2
def wrG (ρ':Nat->Nat)(me':List (Nat×Ent))(dead:List Nat):List (Nat×Ent):=me'.map (fun x=>(ρ' x.1,x.2.renI ρ'))++dead.map fun i=>(i,.dead)
def Tf:List Nat->Bool |[]=>true |x::r=>!memB x r && Tf r
variable {l:List (Nat×Ent)}
theorem zyd (h:Tf (l.map (·.1))=true):∀ x∈l,lkE l x.1=some x.2:=by
 induction l with
 |nil=>intro x b;cases b
 |cons y r ih =>
  obtain ⟨u,e⟩:=y;simp only [map_cons,Tf,Bool.and_eq_true,aN] at h;intro x b;rcases mem_cons.1 b with rfl|b
  ·simp [lkE]
  ·have c:¬u=x.1:=fun e=>by
    have:memB u (r.map (·.1))=true:=(Db _ _).2 (by rw [e];exact aG.2 ⟨x,b,rfl⟩);rw [h.1] at this;cases this
   have f:aL u x.1=false:=by
    cases d:aL u x.1 with
    |true=>exact absurd (aA d) c
    |false=>rfl
   simp only [lkE,f];exact ih h.2 x b
theorem Tg {i:Nat}{e:Ent}(h:lkE l i=some e):(i,e)∈l:=by
 induction l with
 |nil=>simp [lkE] at h
 |cons x r ih =>
  obtain ⟨u,c⟩:=x;simp only [lkE] at h;cases b:aL u i with
  |true =>
   rw [b] at h;injection h with h
   rw [<-aA b,h];exact mem_cons_self ..
  |false=>rw [b] at h;exact mem_cons_of_mem _ (ih h)
variable {ρ':Nat->Nat}{me':List (Nat×Ent)}{dead:List Nat}
theorem wrG_get (g:Tf (me'.map (·.1))=true){e:Ent}(h:lkE (wrG ρ' me' dead) j=some e) :
  (∃ i k,lkE me' i=some k/\i∈me'.map (·.1)/\ρ' i=j/\e=k.renI ρ')\/((∀ i∈me'.map (·.1),ρ' i≠j)/\j∈dead/\e=.dead):=by
 unfold wrG at h;rw [zhj] at h;cases h1:lkE (me'.map fun x=>(ρ' x.1,x.2.renI ρ')) j with
 |some n =>
  rw [h1] at h;simp only [Option.some_or,Option.some.injEq] at h;subst h;obtain ⟨x,c,b⟩:=aG.1 (Tg h1);injection b with f d
  exact aE ⟨x.1,x.2,zyd g x c,aG.2 ⟨x,c,rfl⟩,f,d.symm⟩
 |none =>
  rw [h1] at h;simp only [Option.none_or] at h;obtain ⟨x,c,b⟩:=aG.1 (Tg h);injection b with f d
  refine aB ⟨fun i hi e=>?_,f▸c,d.symm⟩;obtain ⟨y,m,rfl⟩:=aG.1 hi;have:lkE (me'.map fun x=>(ρ' x.1,x.2.renI ρ')) j≠none:=by
   rw [O2];exact aG.2 ⟨(ρ' y.1,y.2.renI ρ'),aG.2 ⟨y,m,rfl⟩,e⟩
  exact this h1
theorem y07 (h:lkE (wrG ρ' me' dead) j=none):(∀ i∈me'.map (·.1),ρ' i≠j)/\j ∉ dead:=by
 constructor
 ·intro i hi e;obtain ⟨y,b,rfl⟩:=aG.1 hi;have:lkE (wrG ρ' me' dead) j≠none:=by
   rw [O2];unfold wrG;rw [map_append];exact aK _ (aG.2 ⟨(ρ' y.1,y.2.renI ρ'),aG.2 ⟨y,b,rfl⟩,e⟩)
  exact this h
 ·intro c;have:lkE (wrG ρ' me' dead) j≠none:=by
   rw [O2];unfold wrG;rw [map_append];exact aO _ (aG.2 ⟨(j,.dead),aG.2 ⟨j,c,rfl⟩,rfl⟩)
  exact this h
def Hs (me me':List (Nat×Ent))(i:Nat):Bool:=match lkE me i,lkE me' i with
 |some (.box _ _),_=>true
 |some (.row _ _ _),some _=>true
 |_,_=>false
def y1m (τf:Nat->Option Ent)(ρ ρ':Nat->Nat)(me:List (Nat×Ent))(i:Nat):Bool:=match lkE me i,τf (ρ' i) with
 |some (.box _ _),_=>aL (ρ' i) (ρ i)
 |some (.row _ _ _),_=>aL (ρ' i) (ρ i)
 |_,none=>true
 |_,_=>false
theorem StG.join (h:StG cx γ τ a w){γc γc':Gam}{w':World}{dst:Option Nat}{u:Value}{res:AV}(ac:injB ρ (me.map (·.1))=true)(Y:∀ i∈me.map (·.1),γc i=γ (ρ i))(ai:∀ i,i ∉ me.map (·.1)->γc i=none)
  (B:MeSt (Cx.sub cx γ γc w) γc' me' w') (hz:w.heap.size<=w'.heap.size) (aj:∀ i,Hs me me' i=true->γc' i=γc i) (ag:∀ b,¬own γc b->b<w.heap.size->w'.heap[b]? = w.heap[b]? /\ ¬own γc' b) (ar:cx.E.dr=true->w.drawn<=w'.drawn)
  (hd:∀ x,dst=some x->cx.E.np<=x/\x<cx.nt) (am:Tf (me'.map (·.1))=true) (W:injB ρ' (me'.map (·.1))=true) (ad:me'.all (fun x=>x.2.inM (me'.map (·.1)))=true) (F:(me'.map (·.1)).all (y1m τ.find ρ ρ' me)=true)
  (Q:(me.map (·.1)).all (fun i=>memB (ρ i) dead || (me'.map (·.1)).any fun k=>aL (ρ' k) (ρ i))=true) (G:dead.all (fun j=>(me.map (·.1)).any fun i=>aL (ρ i) j)=true)
  (hu:Rep w' (Sg (Cx.sub cx γ γc w).S0 cx.w0.heap.size γc') γc' res u) (aa:res.inM (me'.map (·.1))=true) :
  ∃ γ',StG cx γ' (τ.upd dst (res.ren ρ') (wrG ρ' me' dead)) (a.put dst u) w':=by
 generalize ae:me.map (·.1)=ids at *;generalize n:me'.map (·.1)=c at *;have V:∀ i,lkE me' i≠none ↔ i∈c:=fun i=>by rw [O2,n]
 let γ':Gam:=fun j=>match memL ρ' c j with|some i=>γc' i|none=>(match memL ρ ids j with|some _=>some none|none=>γ j)
 have F1:∀ i∈c,γ' (ρ' i)=γc' i:=fun i hi=>by
  show (match memL ρ' c (ρ' i) with|some i=>γc' i|none=>_)=_;rw [zy5 W hi]
 have F2:∀ j,(∀ i∈c,ρ' i≠j)->(∃ i∈ids,ρ i=j)->γ' j=some none:=fun j h1 ⟨i,hi,e⟩=>by
  show (match memL ρ' c j with|some i=>γc' i|none=>_)=_;have e1:memL ρ' c j=none:=by
   cases J:memL ρ' c j with
   |none=>rfl
   |some k=>exact absurd (Nx J).2 (h1 k (Nx J).1)
  rw [e1];subst e;show (match memL ρ ids (ρ i) with|some _=>some none|none=>γ (ρ i))=_;rw [zy5 ac hi]
 have F3:∀ j,(∀ i∈c,ρ' i≠j)->(∀ i∈ids,ρ i≠j)->γ' j=γ j:=fun j h1 t=>by
  show (match memL ρ' c j with|some i=>γc' i|none=>_)=_;have e1:memL ρ' c j=none:=by
   cases J:memL ρ' c j with
   |none=>rfl
   |some k=>exact absurd (Nx J).2 (h1 k (Nx J).1)
  have e2:memL ρ ids j=none:=by
   cases J:memL ρ ids j with
   |none=>rfl
   |some k=>exact absurd (Nx J).2 (t k (Nx J).1)
  rw [e1];show (match memL ρ ids j with|some _=>some none|none=>γ j)=_;rw [e2]
 have R:∀ b,own γc b->own γ b:=fun b ⟨i,s,hi,f⟩=>by
  by_cases hm:i∈ids
  ·rw [Y i hm] at hi;exact ⟨_,s,hi,f⟩
  ·rw [ai i hm] at hi;cases hi
 -- what another name owns is not given
 have m:∀ j b s,(∀ i∈ids,ρ i≠j)->γ j=some s->b∈blks s->¬own γc b:=fun j b s d f au ⟨i,s',hi,ao⟩=>by
  by_cases hm:i∈ids
  ·rw [Y i hm] at hi;exact d i hm (h.inj _ _ _ _ _ hi f ao au)
  ·rw [ai i hm] at hi;cases hi
 have q:∀ j,(∃ i∈c,ρ' i=j)\/((∀ i∈c,ρ' i≠j)/\((∃ i∈ids,ρ i=j)\/∀ i∈ids,ρ i≠j)):=fun j=>by
  by_cases h1:∃ i∈c,ρ' i=j
  ·exact aE h1
  ·refine aB ⟨fun i hi e=>h1 ⟨i,hi,e⟩,?_⟩;by_cases t:∃ i∈ids,ρ i=j
   ·exact aE t
   ·exact aB (fun i hi e=>t ⟨i,hi,e⟩)
 have y:∀ b,own γ' b->own γc' b\/(own γ b/\¬own γc b):=fun b ⟨j,s,d,hm⟩=>by
  rcases q j with ⟨i,hi,rfl⟩|⟨h1,t|t⟩
  ·rw [F1 i hi] at d;exact aE ⟨i,s,d,hm⟩
  ·rw [F2 j h1 t] at d;injection d with d;subst d;simp [blks] at hm
  ·rw [F3 j h1 t] at d;exact aB ⟨⟨j,s,d,hm⟩,m j b s t d hm⟩
 have T:∀ b,¬own γ b->b<w.heap.size->w'.heap[b]? = w.heap[b]? /\ ¬own γ' b:=fun b f N=>by
  obtain ⟨q1,q2⟩:=ag b (fun C=>f (R b C)) N;exact ⟨q1,fun C=>(y b C).elim q2 (fun h=>f h.1)⟩
 have M:∀ b,Sg (Cx.sub cx γ γc w).S0 cx.w0.heap.size γc' b->Sg cx.S0 cx.w0.heap.size γ' b:=by
  rintro b (⟨h1|⟨h1,_⟩,Z⟩|⟨⟨h1,Z⟩,h4⟩)
  ·exact aE ⟨h1,Z⟩
  ·have:=(h.own_ge h1).1;omega
  ·exact aB ⟨⟨h1,fun h5=>Z (aE h5)⟩,fun C=>(y b C).elim h4 (fun h6=>Z (aB h6))⟩
 have P:∀ b,Sg cx.S0 cx.w0.heap.size γ b->¬own γ b:=fun b M C=>by
  rcases M with ⟨_,h1⟩|⟨_,h1⟩
  ·have:=(h.own_ge C).1;omega
  ·exact h1 C
 have U:∀ {g:Gam} {av v},Rep w' (Sg (Cx.sub cx γ γc w).S0 cx.w0.heap.size γc') g av v->Rep w' (Sg cx.S0 cx.w0.heap.size γ') g av v:=fun h=>h.mono (aC _) (fun b f _=>⟨rfl,M b f⟩)
 simp only [aJ] at ad F Q G;have O:∀ i∈c,(Hs me me' i=true/\i∈ids/\ρ' i=ρ i)\/τ.find (ρ' i)=none:=fun i hi=>by
  have D:=F i hi;have al:=(V i).2 hi;have af:lkE me i≠none->i∈ids:=fun f=>by rw [<-ae];exact O2.1 f
  unfold y1m at D;split at D
  ·rename_i ty es f;exact aE ⟨by unfold Hs;rw [f],af (by rw [f];simp),aA D⟩
  ·rename_i ty sz xs f;refine aE ⟨?_,af (by rw [f];simp),aA D⟩;unfold Hs;cases J:lkE me' i with
   |none=>exact absurd J al
   |some e=>rw [f]
  ·first|(rename_i X _ _;exact aB X)|(rename_i X _;exact aB X)|(rename_i _ _ X;exact aB X)|(rename_i X;exact aB X)
  ·cases D
 refine ⟨γ',h.step (γ':=γ') hd hz (fun b f N=>⟨(T b (P b f) N).1,?_⟩) (fun j x d=>?_) (fun j d=>?_) (fun j e d=>?_) (fun i j b s s' hi d mi mj=>?_) (fun b f=>?_) B.below ?_ T ar⟩
 ·have hn:=(T b (P b f) N).2;rcases f with f|⟨h1,_⟩
  ·exact aE f
  ·exact aB ⟨h1,hn⟩
 ·rcases q j with ⟨i,hi,rfl⟩|⟨h1,t|t⟩
  ·rcases O i hi with ⟨f,ap,e⟩|hn
   ·left;rw [F1 i hi,aj i f,Y i ap,<-e];exact d
   ·have:=h.me (ρ' i);rw [hn] at this;rw [show γ (ρ' i)=none from this] at d;cases d
  ·exact aB (aE (F2 j h1 t))
  ·exact aE (by rw [F3 j h1 t];exact d)
 ·obtain ⟨h1,t⟩:=y07 d;rw [n] at h1;have Z:∀ i∈ids,ρ i≠j:=fun i hi e=>by
   have hc:=Q i hi;rw [aP] at hc;rcases hc with hc|hc
   ·exact t (by rw [<-e];exact (Db _ _).1 hc)
   ·obtain ⟨k,D,an⟩:=aU.1 hc;exact h1 k D ((aA an).trans e)
  refine ⟨F3 j h1 Z,fun g s hg hm=>(ag g (m j g s Z hg hm) (h.ge g ⟨j,s,hg,hm⟩).2).1⟩
 ·rcases wrG_get (by rw [n];exact am) d with ⟨i,e0,ah,hi,rfl,rfl⟩|⟨h1,t,rfl⟩
  ·rw [n] at hi;have:=B.me i;unfold AS.find at this;rw [ah] at this;obtain ⟨x,hx,K⟩:=this;refine ⟨x,by rw [F1 i hi];exact hx,?_⟩;have hm:=ad (i,e0) (Tg ah);cases e0 with
   |box ty cs =>
    obtain ⟨g,vs,H,f,ak,hr,E⟩:=K;simp only [Ent.inM] at hm;refine ⟨g,vs,H,f,by rw [ak,aD],fun k D=>?_,E⟩;have z:=D;rw [aD] at z;rw [aX ρ' _ k z];exact U ((hr k z).renF F1 (aY hm k z))
   |row ty sz xs =>
    obtain ⟨s,vs,H,h1,y,ab,hr,E⟩:=K;exact ⟨s,vs,H,h1,y,ab,fun k D j d=>U (hr k D j d),E⟩
   |mp ps =>
    obtain ⟨g,H,hm⟩:=K;exact ⟨g,H,hm.move (aC _) (fun b f _=>⟨rfl,M b f⟩) rfl⟩
   |nest ty es=>exact Bq.nest_mono K M
   |mpn ps=>exact Bq.mpn_mono K M
   |are ty idx os=>exact K.gmono (fun _ _ h=>by cases h) M
   |it ps=>exact K.gmono (fun _ _ h=>by cases h) M
   |itp ps=>exact K.gmono (fun _ _ h=>by cases h) M
   |itc p ps=>exact K.gmono (fun _ _ h=>by cases h) M
   |dead=>exact K
  ·rw [n] at h1;obtain ⟨i,hi,aq⟩:=aU.1 (G j t);exact ⟨none,F2 j h1 ⟨i,hi,aA aq⟩,rfl⟩
 ·rcases q i with ⟨k,D,rfl⟩|⟨h1,t|t⟩
  ·rw [F1 k D] at hi;rcases q j with ⟨k',z,rfl⟩|⟨I,A|A⟩
   ·rw [F1 k' z] at d;rw [B.inj _ _ _ _ _ hi d mi mj]
   ·rw [F2 j I A] at d;injection d with d;subst d;simp [blks] at mj
   ·rw [F3 j I A] at d;exact absurd (aB ⟨⟨j,s',d,mj⟩,m j b s' A d mj⟩) (B.ge b ⟨k,s,hi,mi⟩).1.2
  ·rw [F2 i h1 t] at hi;injection hi with hi;subst hi;simp [blks] at mi
  ·rw [F3 i h1 t] at hi;rcases q j with ⟨k',z,rfl⟩|⟨I,A|A⟩
   ·rw [F1 k' z] at d;exact absurd (aB ⟨⟨i,s,hi,mi⟩,m i b s t hi mi⟩) (B.ge b ⟨k',s',d,mj⟩).1.2
   ·rw [F2 j I A] at d;injection d with d;subst d;simp [blks] at mj
   ·rw [F3 j I A] at d;exact h.inj _ _ _ _ _ hi d mi mj
 ·rcases y b f with C|⟨C,_⟩
  ·have:=B.ge b C;exact ⟨⟨this.1.1,fun h5=>this.1.2 (aE h5)⟩,this.2⟩
  ·exact ⟨(h.ge b C).1,Nat.lt_of_lt_of_le (h.ge b C).2 hz⟩
 ·exact U (hu.renF F1 aa)
end
abbrev CalT:=Array Value->Array Value->World->(Ending->World->Prop)->Prop
def CalF (P:Program)(f k:Nat):CalT:=fun vs cs w R=>cs.size=k->Calls P f (vs++cs) w R
def CalY (P:Program)(l:Nat):CalT:=fun vs cs w R=>YieldAt Fence.wide 0 P l vs w R
def ConG (P:Program)(yl:Option (Nat×Obj))(C:CalT)(args caps:List AV)(me:List (Nat×Ent))(res:AV)(me':List (Nat×Ent)):Prop:=∀ (cx:Cx) (γ:Gam) (w:World) (vs cs:Array Value),cx.E.P=P->cx.E.dr=false->(∀ x,yl=some x->cx.E.yl=some x)->cx.nt=0->cx.E.np=0->MeSt cx γ me w->vs.size=args.length -> (∀ i (hi:i<args.length),Rep w (Sg cx.S0 cx.w0.heap.size γ) γ args[i] (vs.getD i undef))->(∀ i (hi:i<caps.length),Rep w (Sg cx.S0 cx.w0.heap.size γ) γ caps[i] (cs.getD i undef)) -> C vs cs w fun e w'=>∃ u γ',e=.returned u/\MeSt cx γ' me' w'/\Rep w' (Sg cx.S0 cx.w0.heap.size γ') γ' res u/\w.heap.size<=w'.heap.size/\(∀ i,Hs me me' i=true->γ' i=γ i) /\ (∀ b,¬own γ b->b<w.heap.size->w'.heap[b]? = w.heap[b]? /\ ¬own γ' b)
variable {σ:AS}{l:List (Nat×Ent)}
theorem LeE.congr {τ:AS}(h:LeE σ ρ ids l)(c:∀ i∈l.map (·.1),τ.find (ρ i)=σ.find (ρ i)):LeE τ ρ ids l:=by
 induction l with
 |nil=>trivial
 |cons x r ih =>
  obtain ⟨i,e⟩:=x;simp only [LeE] at h ⊢;exact ⟨⟨(c i (by simp)).trans h.1.1,h.1.2⟩,ih h.2 (fun j b=>c j (by simp at b ⊢;exact aB b))⟩
def LeF (find:Nat->Option Ent)(ρ:Nat->Nat)(ids:List Nat):List (Nat×Ent)->Prop |[]=>True |(i,e)::r=>(find (ρ i)=some (e.renI ρ)/\e.inM ids=true)/\LeF find ρ ids r
theorem LeF.le (h:LeF σ.find ρ ids l):LeE σ ρ ids l:=by
 induction l with
 |nil=>trivial
 |cons x r ih=>exact ⟨h.1,ih h.2⟩
structure D1 (find:Nat->Option Ent) (ρ ρ':Nat->Nat) (me me':List (Nat×Ent)) (res:AV) (dead:List Nat):Prop where
 inj:injB ρ (me.map (·.1))=true
 nd:Tf (me'.map (·.1))=true
 inj':injB ρ' (me'.map (·.1))=true
 hin:me'.all (fun x=>x.2.inM (me'.map (·.1)))=true
 keep:(me'.map (·.1)).all (y1m find ρ ρ' me)=true
 cov:(me.map (·.1)).all (fun i=>memB (ρ i) dead || (me'.map (·.1)).any fun k=>aL (ρ' k) (ρ i))=true
 dd:dead.all (fun j=>(me.map (·.1)).any fun i=>aL (ρ i) j)=true
 res:res.inM (me'.map (·.1))=true
def idsG (ρ ρ':Nat->Nat)(me me':List (Nat×Ent)):List Nat:=(me.map (·.1)).map ρ++(me'.map (·.1)).map ρ'
variable {ρ':Nat->Nat}{me me':List (Nat×Ent)}{res:AV}{dead:List Nat}
theorem zvs {find:Nat->Option Ent}(h:D1 find ρ ρ' me me' res dead)(id:Nat)(e:Ent)(c:lkE (wrG ρ' me' dead) id=some e):id∈idsG ρ ρ' me me':=by
 rcases wrG_get h.nd c with ⟨i,_,_,hi,rfl,_⟩|⟨_,d,_⟩
 ·exact aO _ (aH hi)
 ·have:=aJ.1 h.dd id d;obtain ⟨i,hi,b⟩:=aU.1 this;rw [<-aA b];exact aK _ (aH hi)
theorem D1.congr {f g:Nat->Option Ent}(h:D1 f ρ ρ' me me' res dead)(c:∀ id∈idsG ρ ρ' me me',g id=f id):D1 g ρ ρ' me me' res dead:=by
 refine ⟨h.inj,h.nd,h.inj',h.hin,?_,h.cov,h.dd,h.res⟩;have b:=h.keep;rw [aJ] at b ⊢;intro i hi;have:=b i hi;unfold y1m at this ⊢;rw [c (ρ' i) (aO _ (aH hi))];exact this
section
variable {cx:Cx} {σ:AS} {o:Oper}
variable {w:World}
theorem zqh {γ γc:Gam}{τ:AS}{a:Act}{w':World}{dst:Option Nat}{u:Value}{γ':Gam}(e:StG cx γ τ a w)(c:D1 τ.find ρ ρ' me me' res dead)(d:cx.E.dr=false)
  (k:∀ x,dst=some x->cx.E.np<=x/\x<cx.nt) (g:∀ i∈me.map (·.1),γc i=γ (ρ i)) (f:∀ i,i ∉ me.map (·.1)->γc i=none)
  (h1:MeSt (Cx.sub cx γ γc w) γ' me' w') (q:Rep w' (Sg (Cx.sub cx γ γc w).S0 cx.w0.heap.size γ') γ' res u) (p:w.heap.size<=w'.heap.size) (n:∀ i,Hs me me' i=true->γ' i=γc i)
  (m:∀ b,¬own γc b->b<w.heap.size->w'.heap[b]? = w.heap[b]? /\ ¬own γ' b):St cx (τ.upd dst (res.ren ρ') (wrG ρ' me' dead)) (a.put dst u) w' :=
 e.join c.inj g f h1 p n m (fun h=>absurd (d.symm.trans h) (by simp)) k c.nd c.inj' c.hin c.keep c.cov c.dd q c.res
theorem zcu {γ γc:Gam}{S S':Nat->Prop}{l m:List AV}{vs:Nat->Value}(d:∀ i∈ids,γc i=γ (ρ i))(g:∀ b,S b->S' b)(e:aV ρ l=m)(c:aW ids l=true)
  (h:∀ i (hi:i<m.length),Rep w S γ m[i] (vs i)):∀ i (hi:i<l.length),Rep w S' γc l[i] (vs i):=fun i hi=>by
 subst e;have:=h i (by rw [aD];exact hi);exact ((this.ren d _ (aX _ _ _ _) (aY c i hi))).mono (aC _) (fun b f _=>⟨rfl,g b f⟩)
variable {x:Operand}{args:Array Operand}{tys:Array TypeId}{cargs:List AV}{yl:Option (Nat×Obj)}
theorem zs0 {f:Nat}{p:List AV}(z:o.op=.call { callee:=.value x,args:=args,argTypes:=tys })(hd:dok cx o=true)(t:A7 x=true)(v:args.toList.all A7=true)(W:σ.eval x=.fn f p)
  (Z:Ci cx.E f) (d:cx.E.dr=false) (h:aV ρ cargs=C9 σ args p) (F:aW (me.map (·.1)) cargs=true) (D:LeE σ ρ (me.map (·.1)) me) (B:D1 σ.find ρ ρ' me me' res dead)
   (s:∀ x,yl=some x->cx.E.yl=some x) (q:ConG cx.P yl (CalF cx.P f 0) cargs [] me res me'):Aj cx o σ (res.ren ρ') (idsG ρ ρ' me me') (wrG ρ' me' dead):=by
 refine ⟨zvs B,fun τ h1 O a w Q K ⟨γ,g⟩ hK=>C5 (fun c q=>by rw [z] at q;cases q) ?_⟩;have k:o.op.operands=#[x]++args:=by simp [z,Op.operands,Call.operands]
 obtain ⟨caps,G,Y,X⟩:=O8 g v t (fun y M=>h1 y (by rw [k];simp at M ⊢;exact aB M)) (h1 x (by rw [k];simp)) W;have m:LeE τ ρ (me.map (·.1)) me:=D.congr (fun i hi=>O _ (aK _ (aH hi)));have A:D1 τ.find ρ ρ' me me' res dead:=B.congr (fun id E=>O id E);obtain ⟨γc,n,I,N,hS,C⟩:=g.part B.inj m;unfold Oper.wp;rw [O1 z G Z];show Calls _ _ _ _ _;have J:(args.map a.eval++caps).size=cargs.length:=by rw [Y,<-h,aD]
 have H:=q (Cx.sub cx γ γc w) γc w (args.map a.eval++caps) #[] rfl d s rfl rfl C J
  (zcu (γ:=γ) (S:=Sg cx.S0 cx.w0.heap.size γ) (vs:=fun i=>(args.map a.eval++caps).getD i undef) n (fun b hb=>(hS b).2 hb) h F X) (fun i hi=>absurd hi (by simp)) rfl
 rw [aS] at H;refine H.mono ?_;rintro e w' ⟨u,γ',rfl,V,U,T,R,P⟩;exact hK _ _ (zqh g A d (C0 hd) n I V U T R P)
theorem zfk {P:Program}{l:Nat}{a:Act}(c:o.op=.call { callee:=.value x,args:=args,argTypes:=tys })(b:a.eval x=.func (.yield l) #[] #[]) :
  (execOp a.eval o).run P w=(Instr.yield l (args.map a.eval)).run P w:=by
 simp only [execOp,c,resolve,b,Deferred.ofValue,invoke,Sem.run_bind,Sem.run_pure,Result.andThen_ok,Array.empty_append]
theorem zwg {l:Nat}{T:Array Value}{t ccaps:List AV}(E:o.op=.call { callee:=.value x,args:=args,argTypes:=tys })(hd:dok cx o=true)(B:A7 x=true)(D:args.toList.all A7=true)(hx:σ.eval x=.yld l T t)
  (g:cx.E.dr=false) (m:aV ρ cargs=args.toList.map σ.eval) (C:aV ρ ccaps=t) (P:aW (me.map (·.1)) cargs=true) (O:aW (me.map (·.1)) ccaps=true) (M:LeE σ ρ (me.map (·.1)) me) (I:D1 σ.find ρ ρ' me me' res dead)
   (A:∀ x,yl=some x->cx.E.yl=some x) (z:ConG cx.P yl (fun vs cs w R=>cs=T->CalY cx.P l vs cs w R) cargs ccaps me res me'):Aj cx o σ (res.ren ρ') (idsG ρ ρ' me me') (wrG ρ' me' dead):=by
 refine ⟨zvs I,fun τ h1 h2 a w Q K ⟨γ,d⟩ hK=>?_⟩;have p:o.op.operands=#[x]++args:=by simp [E,Op.operands,Call.operands]
 have Z:∀ y∈args.toList,τ.eval y=σ.eval y:=fun y v=>h1 y (by rw [p];simp at v ⊢;exact aB v)
 have s:=d.ev x B;rw [h1 x (by rw [p];simp),hx] at s;obtain ⟨V,hr⟩:=s.yld_inv;have q:LeE τ ρ (me.map (·.1)) me:=M.congr (fun i hi=>h2 _ (aK _ (aH hi)));have G:D1 τ.find ρ ρ' me me' res dead:=I.congr (fun id N=>h2 id N);obtain ⟨γc,k,W,aa,hS,J⟩:=d.part I.inj q;have Y:(args.map a.eval).size=cargs.length:=by rw [Array.size_map];have:=congrArg length m;rw [aD,length_map,Array.length_toList] at this;exact this.symm
 have H:=z (Cx.sub cx γ γc w) γc w (args.map a.eval) T rfl g A rfl rfl J Y
  (zcu (γ:=γ) (S:=Sg cx.S0 cx.w0.heap.size γ) (vs:=fun i=>(args.map a.eval).getD i undef) k (fun b X=>(hS b).2 X) m P (fun i hi=>by
    have U:i<args.size:=by simpa using hi
    simp only [getElem_map,Array.getElem_toList];have e:(args.map a.eval).getD i undef=a.eval args[i]:=by simp [aT,U]
    rw [e,<-Z args[i] (by simp)];exact d.ev _ (aJ.mp D _ (by simp))))
  (zcu (γ:=γ) (S:=Sg cx.S0 cx.w0.heap.size γ) (vs:=fun i=>T.getD i undef) k (fun b X=>(hS b).2 X) C O hr) rfl
 obtain ⟨fn,tmps,assign,body,v,f⟩:=H;refine ⟨fun _ _=>trivial,?_⟩;rw [Oper.semAt_eq _ _ _ (fun c z=>by rw [E] at z;cases z),zfk E V,v];refine ⟨fun h=>by simp [Fence.wide] at h,RoundIn.mono (F:=cx.F) (n:=0) (f:_) ?_⟩;rintro e w' ⟨u,γ',rfl,q1,q2,q3,q4,q5⟩;exact hK _ _ (zqh d G g (C0 hd) k W q1 q2 q3 q4 q5)
end
abbrev recR (fn:FuncId)(T:Array Value)(ps:Array Tmp)(assign body:Code)(D:Nat):Loop:={ state:=.ready,pending:=none,fn:=fn,tmps:=T,params:=ps,assign:=assign,body:=body,defers:=D }
section
variable {w:World} {r:Nat} {o:Obj}
theorem Cj {b:Nat}(h:b≠r):(w.putObj r o).heap[b]? = w.heap[b]? := World.putObj_heap_other h
theorem Cv:(w.putObj r o).heap.size=w.heap.size:=by simp [World.putObj]
variable {S:Nat->Prop}
theorem Rep.putObj {γ:Gam}{av:AV}{v:Value}(M:∀ off,w.cell? ⟨r,off,none⟩=none)(D:∀ es c,w.heap[r]? ≠ some (.map es c))(h:Rep w S γ av v):Rep (w.putObj r o) S γ av v:=by
 have key:∀ b off u,w.cell? ⟨b,off,none⟩=some u->(w.putObj r o).cell? ⟨b,off,none⟩=some u:=fun b off u C=>by
  have E:b≠r:=fun e=>by subst e;rw [M off] at C;cases C
  exact (World.cell?_of_block (w:=w) (a:=⟨b,off,none⟩) (Cj E)).trans C
 induction h with
 |any=>exact .any _
 |int=>exact .int _ _
 |bool=>exact .bool _
 |str=>exact .str _
 |nilp=>exact .nilp
 |ptr h f=>exact .ptr h f
 |elt h f=>exact .elt h f
 |nils=>exact .nils
 |sl A c cell H q s p h1 d =>
  refine .sl A c cell H q (fun Q=>?_) (fun k I j G=>d k I j G) h1;obtain ⟨b,off,O,t,F,m⟩:=s Q;exact ⟨b,off,O,t,by rw [Cv];exact F,fun k j h1 P=>key _ _ _ (m k j h1 P)⟩
 |row h f=>exact .row h f
 |fn vs i p d=>exact .fn vs i d
 |yld p d=>exact .yld d
 |nilf=>exact .nilf
 |agg vs i p h1 d=>exact .agg vs i d h1
 |tup vs i p d=>exact .tup vs i d
 |ref b off cell t s H p h1 d=>exact .ref b off cell t (by rw [Cv];exact s) (fun j G=>key _ _ _ (H j G)) d h1
 |der h f=>exact .der h f
 |cont h f i=>exact .cont h f i
 |mapv y K g es clock s t N J i I f B z=>exact .mapv y K g es clock s t (by rw [Cv];exact N) ((Cj (fun e=>by subst e;exact D _ _ J)).trans J) i B z
 |mapn=>exact .mapn
 |slen A n c=>exact .slen A n c
variable {L:List MapEntry}{ps:List (AV×AV)}
theorem RepL.putObj (e:∀ off,w.cell? ⟨r,off,none⟩=none)(b:∀ es c,w.heap[r]? ≠ some (.map es c))(h:RepL w S L ps):RepL (w.putObj r o) S L ps:=⟨h.1,fun j q d=>⟨(h.2 j q d).1.putObj e b,(h.2 j q d).2.putObj e b⟩⟩
theorem RepM.putObj (e:∀ off,w.cell? ⟨r,off,none⟩=none)(d:∀ es c,w.heap[r]? ≠ some (.map es c))(h:RepM w S L ps):RepM (w.putObj r o) S L ps:=by
 obtain ⟨b,h1,f⟩:=h;exact ⟨b,h1,RepL.putObj e d f⟩
theorem ItIs.putObj {g:Nat}{P P':Array MapEntry->Array Nat->Nat->Nat->Prop}(B:∀ off,w.cell? ⟨r,off,none⟩=none)(k:∀ es c,w.heap[r]? ≠ some (.map es c))(i:g≠r)(h:ItIs w S g P)(n:∀ es s c d,P es s c d->P' es s c d):ItIs (w.putObj r o) S g P':=by
 rcases h with ⟨bm,since,f,A,es,clock,h1,m,z,p,y,v,u,t,q⟩|⟨a,b,s,h1,m⟩
 ·exact aE ⟨bm,since,f,A,es,clock,(Cj i).trans h1,m,by rw [Cv];exact z,(Cj (fun e=>by subst e;exact k _ _ p)).trans p,y,v,u,t,n _ _ _ _ q⟩
 ·exact aB ⟨a,b,s,(Cj i).trans h1,n _ _ _ _ m⟩
theorem Bq.putObj {γ:Gam}{B:Nat}{d:Option (Option Nat×Value)}{e:Ent}(t:∀ off,w.cell? ⟨r,off,none⟩=none)(m:∀ es c,w.heap[r]? ≠ some (.map es c))(G:∀ b,b∈blks d->b≠r)(h:Bq w S γ B d e):Bq (w.putObj r o) S γ B d e:=by
 cases e with
 |box ty cells =>
  obtain ⟨g,vs,f,hb,hs,Y,h1⟩:=h;exact ⟨g,vs,f,(Cj (G g (by rw [f];exact C1))).trans hb,hs,fun i hi=>(Y i hi).putObj t m,h1⟩
 |row ty sz xs =>
  obtain ⟨s,vs,f,h1,v,hc,Y,ho⟩:=h;refine ⟨s,vs,f,h1,⟨v.1,v.2.elim aE (fun ⟨g,ad,ac,I,u,hh,q⟩=>aB ⟨g,ad,ac,I,u,?_,q⟩)⟩,hc,fun k n j M=>(Y k n j M).putObj t m,ho⟩;subst I;exact (Cj (G g (by rw [f];exact C1))).trans hh
 |mp ps =>
  obtain ⟨g,f,es,clock,D,C,qb,y⟩:=h;exact ⟨g,f,es,clock,(Cj (G g (by rw [f];exact C1))).trans D,C,qb,fun j h F=>⟨(y j h F).1.putObj t m,(y j h F).2.putObj t m⟩⟩
 |nest ty es =>
  obtain ⟨s,vs,f,h1,J,⟨us,v,X,W⟩,E,K⟩:=h;have N:∀ g,B3 s=some g->(w.putObj r o).heap[g]? = w.heap[g]? := fun g u=>Cj (G g (by rw [f];simp [blks,Cs,u]))
  refine ⟨s,vs,f,h1,J,⟨us,v.moved fun g u=>N g u,X,W⟩,fun k A=>?_,K⟩;have z:∀ g,B3 (vs.getD k undef)=some g->g≠r:=fun g u=>G g (by
   rw [f];simp only [blks,aM,aZ,Cs,aR];refine ⟨vs.getD k undef,?_,u⟩;have:k<vs.size:=by omega
   simp [aT,this])
  have n:=E k A;generalize es[k]=e at n;cases e with
  |row ty sz xs =>
   obtain ⟨D,us',C,y,P,O⟩:=n;exact ⟨D,us',C.moved (fun g u=>Cj (z g u)),y,fun k A j M=>(P k A j M).putObj t m,O⟩
  |mp ps =>
   obtain ⟨g,H,I,⟨es,clock,D,C,qb,y⟩,Q⟩:=n;exact ⟨g,H,I,⟨es,clock,(Cj (z g (by rw [I];rfl))).trans D,C,qb,fun j h F=>⟨(y j h F).1.putObj t m,(y j h F).2.putObj t m⟩⟩,Q⟩
  |hole=>exact n
 |mpn ps =>
  obtain ⟨g,es,vs,f,hh,hl,J,ab,Z,V,E,K⟩:=h;have aa:(w.putObj r o).heap[g]? = w.heap[g]? := Cj (G g (by rw [f];simp [blks,Cs,B3]));refine ⟨g,es,vs,f,aa.trans hh,hl,J,ab,fun j h F=>(Z j h F).putObj t m,V,fun k A=>?_,K⟩;have z:∀ g,B3 (vs.getD k undef)=some g->g≠r:=fun g u=>G g (by
   rw [f];simp only [blks,aM,aZ,Cs,aR];refine ⟨vs.getD k undef,?_,u⟩;have:k<vs.size:=by omega
   simp [aT,this])
  have n:=E k A;generalize (ps[k]).2=e at n;cases e with
  |row ty sz xs =>
   obtain ⟨D,us',C,y,P,O⟩:=n;exact ⟨D,us',C.moved (fun g u=>Cj (z g u)),y,fun k A j M=>(P k A j M).putObj t m,O⟩
  |mp ps =>
   obtain ⟨g,H,I,⟨es,clock,D,C,qb,y⟩,Q⟩:=n;exact ⟨g,H,I,⟨es,clock,(Cj (z g (by rw [I];rfl))).trans D,C,qb,fun j h F=>⟨(y j h F).1.putObj t m,(y j h F).2.putObj t m⟩⟩,Q⟩
  |hole=>exact n
 |are ty idx os =>
  obtain ⟨s,vs,us,f,h1,J,v,X,R,E,K⟩:=h;have N:∀ g,B3 s=some g->(w.putObj r o).heap[g]? = w.heap[g]? := fun g u=>Cj (G g (by rw [f];simp [blks,Cs,u]))
  refine ⟨s,vs,us,f,h1,J,v.moved fun g u=>N g u,X,fun k A=>⟨fun h=>((R k A).1 h).putObj t m,(R k A).2⟩,fun k A=>⟨(E k A).1,?_⟩,K⟩;have z:∀ g,B3 (vs.getD k undef)=some g->g≠r:=fun g u=>G g (by
   rw [f];simp only [blks,aM,aZ,Cs,aR];refine ⟨vs.getD k undef,?_,u⟩;have:k<vs.size:=by omega
   simp [aT,this])
  have n:=(E k A).2;generalize os[k]=e at n;cases e with
  |row ty sz xs =>
   obtain ⟨D,us',C,y,P,O⟩:=n;exact ⟨D,us',C.moved (fun g u=>Cj (z g u)),y,fun k A j M=>(P k A j M).putObj t m,O⟩
  |mp ps =>
   obtain ⟨g,H,I,⟨es,clock,D,C,qb,y⟩,Q⟩:=n;exact ⟨g,H,I,⟨es,clock,(Cj (z g (by rw [I];rfl))).trans D,C,qb,fun j h F=>⟨(y j h F).1.putObj t m,(y j h F).2.putObj t m⟩⟩,Q⟩
  |hole=>exact n
 |it ps =>
  obtain ⟨g,f,hi⟩:=h;exact ⟨g,f,hi.putObj t m (G g (by rw [f];exact C1)) (fun es s c d h=>RepM.putObj t m h)⟩
 |itp ps =>
  obtain ⟨g,f,hi⟩:=h;exact ⟨g,f,hi.putObj t m (G g (by rw [f];exact C1)) (fun es s c d ⟨h0,U,e,h1,h2,T⟩=>⟨h0,U,e,h1,h2,RepM.putObj t m T⟩)⟩
 |itc p ps =>
  obtain ⟨g,f,hi⟩:=h;exact ⟨g,f,hi.putObj t m (G g (by rw [f];exact C1)) (fun es s c d ⟨h0,U,e,h1,h2,T,h4⟩=>⟨h0,U,e,h1,h2,⟨T.1.putObj t m,T.2.putObj t m⟩,RepM.putObj t m h4⟩)⟩
 |dead=>exact h
theorem zy0 {k:Nat}(h:w.heap[r]? = some o)(b:o.isCells=false)(off:Nat):w.cell? ⟨r,off,none⟩=none:=by
 cases c:w.cell? ⟨r,off,none⟩ with
 |none=>rfl
 |some u =>
  obtain ⟨o',h1,d⟩:=cells_of_cell c;rw [h] at h1;injection h1 with h1
  rw [h1,d] at b;cases b
end
section
variable {cx:Cx} {γ:Gam} {σ:AS} {a:Act} {w:World}
theorem StG.putObj (h:StG cx γ σ a w){r:Nat}{o o':Obj}{ds:List Deferred}(s:w.heap[r]? = some o)(B:o.isCells=false)(D:cx.w0.heap.size<=r)(i:¬own γ r)(p:Book cx γ { a with defers:=ds } (w.putObj r o'))(n:∀ b,cx.Fr b->b≠r)(f:∀ es c,o≠.map es c:=by intro es c h;cases h)(f:∀ es c,o≠.map es c:=by intro es c h;cases h):StG cx γ σ { a with defers:=ds } (w.putObj r o'):=by
 have u:=zy0 (k:=0) s B;have g:∀ es c,w.heap[r]? ≠ some (.map es c):=fun es c h=>by rw [s] at h;injection h with h;exact f es c h
 have m:∀ b,own γ b->b≠r:=fun b d e=>i (e▸d)
 refine ⟨fun t=>(h.tm t).putObj u g,fun id=>?_,h.inj,fun b d=>by rw [Cv];exact h.ge b d,h.below.trans ⟨rfl,rfl,rfl,by rw [Cv];exact aC _,fun b d=>Cj (by omega)⟩,h.size,p,fun b d=>by rw [Cv];exact h.gh b d,fun b d=>?_,h.dr⟩
 ·have:=h.me id;cases v:σ.find id with
  |none=>rw [v] at this;exact this
  |some e =>
   rw [v] at this;obtain ⟨x,q,C⟩:=this;exact ⟨x,q,C.putObj u g (fun b d=>m b ⟨id,x,q,d⟩)⟩
 ·obtain ⟨A,z,y⟩:=h.fr b d;exact ⟨A,by rw [Cv];exact z,(Cj (n b d)).trans y⟩
end
def LeY (σ:AS)(ρ:Nat->Nat)(ids:List Nat):Nat->List AV->Prop |_,[]=>True |t,.any::r=>LeY σ ρ ids (t+1) r |t,x::r=>(σ.get t=x.ren ρ/\x.inM ids=true)/\LeY σ ρ ids (t+1) r
theorem LeY.at:∀ {l:List AV} {n:Nat},LeY σ ρ ids n l->∀ t (b:t<l.length),l[t]=.any\/(σ.get (n+t)=l[t].ren ρ/\l[t].inM ids=true)
 |[],n,h,t,b=>by simp at b
 |x::r,n,h,t,b=>by
  cases t with
  |zero =>
   cases x<;>first|exact aE rfl|exact aB h.1
  |succ t =>
   have c:LeY σ ρ ids (n+1) r:=by cases x<;>first|exact h|exact h.2
   have:=c.at t (by simpa using b);rw [show n+1+t=n+(t+1) by omega] at this;exact this
theorem WP.rangeFunc {cx:Cx}{g:Operand}{ps:Array Tmp}{assign body:Code}{Q:Exit->AS->Prop}{gf:Nat}{am ycaps ccaps:List AV}
  (ac:cx.E.rg=true) (B:cx.E.dr=false) (N:cx.E.yl=none) (ah:A7 g=true) (O:σ.eval g=.fn gf am) (he:Ci cx.E gf)
  (ad:aV ρ ccaps=am) (ar:aW (me.map (·.1)) ccaps=true) (hy:LeY σ ρ (me.map (·.1)) 0 ycaps) (ap:LeE σ ρ (me.map (·.1)) me) (hn:D1 σ.find ρ ρ' me me' (.tup []) dead)
  (X:∀ (l D:Nat) (fn:FuncId) (T:Array Value),T.size=cx.nt->ConG cx.P (some (l,.loop (recR fn T ps assign body D))) (CalF cx.P gf 0) (.yld l T ycaps::ccaps) [] me (.tup []) me')
  (k:Q .normal (σ.upd none (.tup []) (wrG ρ' me' dead))):WP cx (.rangeFunc g ps assign body) Q σ:=by
 have hrd:cx.rd=none:=cx.hrd ac;intro a w ⟨γ,m⟩;have ai:=m.ev g ah;rw [O] at ai;obtain ⟨caps,aj,hl,_⟩:=ai.fn_inv;refine wpIn_rangeFunc (fun fn bb=>?_);obtain ⟨W1,C⟩:∃ W1,(w.alloc (.deferred (some []))).alloc (.loop (recR fn a.tmps ps assign body w.heap.size))=W1:=⟨_,rfl⟩;have ak:W1.heap[w.heap.size+1]? = some (.loop (recR fn a.tmps ps assign body w.heap.size)):=by
  rw [<-C];have:=World.alloc_heap_new (w.alloc (.deferred (some []))) (.loop (recR fn a.tmps ps assign body w.heap.size));rwa [World.size_alloc] at this
 have ax:W1.heap[w.heap.size]? = some (.deferred (some [])):=by
  rw [<-C];exact (Below.heap_alloc _ _ _ (by simp)).trans (World.alloc_heap_new w _)
 have ba:W1.heap.size=w.heap.size+2:=by rw [<-C];simp
 have aw:Below w.heap.size w W1:=by rw [<-C];exact ((Below.refl _ w).alloc (aC _) _).alloc (by simp) _
 have c:StG cx γ (σ.upd none .any []) (a.put none undef) W1:=m.grow (dst:=none) (av:=.any) (v:=undef) (fun x O=>by cases O) aw (fun h=>absurd (B.symm.trans h) (by simp)) (.any _);have az:Ext σ (σ.upd none .any []):=⟨fun _=>rfl,fun _=>rfl⟩;have c:StG cx γ σ a W1:=⟨fun t=>c.tm t,fun i=>c.me i,c.inj,c.ge,c.below,c.size,c.defers,c.gh,c.fr,c.dr⟩;have z:∀ b,own γ b->b<w.heap.size:=fun b d=>(m.ge b d).2
 have ay:cx.w0.heap.size<=w.heap.size:=m.below.size
 -- the iterator's part
 obtain ⟨γc,Z,au,s,hS,p⟩:=c.part hn.inj ap;let cxs:Cx:={ Cx.sub cx γ γc W1 with E:={ cx.E with np:=0,yl:=some (w.heap.size+1,.loop (recR fn a.tmps ps assign body w.heap.size)) },hrd:=fun _=>rfl };have ae:MeSt cxs γc me W1:=⟨p.tm,p.me,p.inj,p.ge,p.below,rfl,⟨fun _=>rfl,⟨[],rfl,.nil,fun r G=>by cases G⟩,fun t ht=>absurd ht (aQ _),fun l R A=>by
  have e:some (w.heap.size+1,Obj.loop (recR fn a.tmps ps assign body w.heap.size))=some (l,R):=A;injection e with e
  injection e with e1 e2
  subst e1 e2;exact ⟨by show cx.w0.heap.size<=_;omega,by omega,fun I=>by have:=z _ (s _ I);omega,ak⟩,aC _⟩,p.gh,fun b d=>d.elim,p.dr⟩
 have V:=c.ev g ah;rw [O] at V;obtain ⟨caps',q,_,W⟩:=V.fn_inv;rw [aj] at q;injection q with _ _ q
 subst q;have Y:=zcu (γ:=γ) (γc:=γc) (w:=W1) (S:=Sg cx.S0 cx.w0.heap.size γ) (S':=Sg (Cx.sub cx γ γc W1).S0 cx.w0.heap.size γc) (vs:=fun i=>caps.getD i undef) Z (fun b d=>(hS b).2 d) ad ar W;have aa:Rep W1 (Sg (Cx.sub cx γ γc W1).S0 cx.w0.heap.size γc) γc (.yld (w.heap.size+1) a.tmps ycaps) (.func (.yield (w.heap.size+1)) #[] #[]):=.yld (fun t ht=>by
  rcases hy.at t ht with ha|⟨ha,hm⟩
  ·rw [ha];exact .any _
  ·rw [Nat.zero_add] at ha;have r1:=c.tm t;rw [ha] at r1;exact (r1.ren Z _ rfl hm).mono (aC _) (fun b d _=>⟨rfl,(hS b).2 d⟩))
 have H:=X (w.heap.size+1) w.heap.size fn a.tmps m.size cxs γc W1 (#[.func (.yield (w.heap.size+1)) #[] #[]]++caps) #[] rfl B (fun x O=>O) rfl rfl ae (by
   have:=congrArg length ad;rw [aD] at this;simp [hl,this];omega)
  (fun i hi=>by
    match i with
    |0 =>
     have e:(#[Value.func (.yield (w.heap.size+1)) #[] #[]]++caps).getD 0 undef=.func (.yield (w.heap.size+1)) #[] #[]:=by
      rw [aF,Array.getElem?_append_left (by simp)];rfl
     rw [e];exact aa
    |i+1 =>
     have:=Y i (by simpa using hi);have e:(#[Value.func (.yield (w.heap.size+1)) #[] #[]]++caps).getD (i+1) undef=caps.getD i undef:=by
      rw [aF,Array.getElem?_append_right (by simp),aF];simp
     rw [e];exact this)
  (fun i hi=>absurd hi (by simp)) rfl
 rw [aS] at H;refine ⟨w.heap.size+1,[{ target:=.collected w.heap.size,args:=#[] }],W1,{ target:=.fn (.func gf) caps,args:=#[.func (.yield (w.heap.size+1)) #[] #[]] },W1,gf,
  #[.func (.yield (w.heap.size+1)) #[] #[]]++caps,W1,?_,?_,?_,?_,fun h=>by simp [Fence.wide] at h,?_⟩
 ·show (Instr.enterLoop fn a.tmps ps assign body cx.rd).run cx.P w=_;rw [hrd,<-C];exact run_enterLoop_outer _ _ _ _ _
 ·simp only [resolve,aj];simp [go_sem]
 ·intro f' bc;trivial
 ·simp [invoke,go_sem,he _ _]
 ·refine CallsIn.mono (F:=cx.F) ((callsIn_wide (n:=0)).2 H:_) ?_;rintro e W2 ⟨u,γ',rfl,M,q2,q3,q4,q5⟩;have af:W2.heap[w.heap.size+1]? = some (.loop (recR fn a.tmps ps assign body w.heap.size)):=(q5 _ (fun I=>by have:=z _ (s _ I);omega) (by omega)).1.trans ak;have aq:W2.heap[w.heap.size]? = some (.deferred (some [])):=(q5 _ (fun I=>by have:=z _ (s _ I);omega) (by omega)).1.trans ax;refine ⟨none,_,run_endLoop (P:=cx.P) af (by simp),?_⟩;have ao:MeSt (Cx.sub cx γ γc W1) γ' me' W2:=⟨M.tm,M.me,M.inj,M.ge,M.below,rfl,⟨fun _=>rfl,⟨[],rfl,.nil,fun r G=>by cases G⟩,fun t ht=>absurd ht (aQ _),fun l R A=>absurd (N.symm.trans A) (by simp),M.defers.sz⟩,M.gh,fun b d=>d.elim,M.dr⟩
  -- the marked blocks are no one's
  let al:Cx:={ cx with Fr:=fun b=>cx.Fr b\/b=w.heap.size\/b=w.heap.size+1,w1:=W1 };have ab:StG al γ σ a W1:=⟨c.tm,c.me,c.inj,c.ge,c.below,c.size,⟨c.defers.d0,c.defers.marks,c.defers.pin,c.defers.yl,aC _⟩,c.gh,fun b d=>by
   rcases d with d|d|d
   ·obtain ⟨p1,p2,_⟩:=c.fr b d;exact ⟨p1,p2,rfl⟩
   ·exact ⟨fun I=>by have:=z _ I;omega,by omega,rfl⟩
   ·exact ⟨fun I=>by have:=z _ I;omega,by omega,rfl⟩,c.dr⟩
  obtain ⟨K,f⟩:=zqh (cx:=al) (dst:=none) (τ:=σ) ab hn B (fun x O=>by cases O) Z au ao q2 q3 q4 q5;obtain ⟨d1,d2,d3⟩:=f.fr w.heap.size (aB (aE rfl));obtain ⟨l1,l2,l3⟩:=f.fr (w.heap.size+1) (aB (aB rfl));have J:StG cx K (σ.upd none (AV.ren ρ' (.tup [])) (wrG ρ' me' dead)) a W2:=⟨f.tm,f.me,f.inj,f.ge,f.below,f.size,⟨f.defers.d0,f.defers.marks,f.defers.pin,f.defers.yl,Nat.le_trans c.defers.sz f.defers.sz⟩,f.gh,fun b d=>by
   obtain ⟨p1,p2,p3⟩:=f.fr b (aE d);obtain ⟨p4,p5,p6⟩:=c.fr b d;exact ⟨p1,p2,p3.trans p6⟩,f.dr⟩
  obtain ⟨rs,m1,m2,m3⟩:=J.defers.marks;have U:∀ r∈rs,r<w.heap.size:=fun r G=>by
   obtain ⟨an,n1,n2,n3⟩:=m.defers.marks;have:an=rs:=by
    have e:=n1.symm.trans m1;have ag:∀ (x y:Nat),({ target:=.collected x,args:=#[] }:Deferred)={ target:=.collected y,args:=#[] }->x=y:=fun x y h=>by injection h with h _;injection h
    exact (List.map_inj_right ag).1 e
   subst this;exact (n3 r G).2.1
  refine ⟨σ.upd none (AV.ren ρ' (.tup [])) (wrG ρ' me' dead),k,K,?_⟩;refine J.putObj (o':=.loop { recR fn a.tmps ps assign body w.heap.size with state:=.exhausted }) (ds:=[{ target:=.collected w.heap.size,args:=#[] }]++a.defers) af rfl (by omega) l1
   ⟨fun h0=>absurd (h0.symm.trans ac) (by simp),⟨w.heap.size::rs,by rw [m1];rfl,nodup_cons.2 ⟨fun h=>by have:=U _ h;omega,m2⟩,fun r G=>?_⟩,J.defers.pin,fun l R A=>absurd (N.symm.trans A) (by simp),by rw [Cv];exact J.defers.sz⟩
   (fun b d e=>by obtain ⟨_,p2,_⟩:=m.fr b d;omega)
  rcases mem_cons.1 G with rfl|G
  ·exact ⟨ay,by rw [Cv];omega,d1,(Cj (by omega)).trans aq⟩
  ·obtain ⟨p1,p2,p3,p4⟩:=m3 r G;have:=U r G;exact ⟨p1,by rw [Cv];exact p2,p3,(Cj (by omega)).trans p4⟩
end Go.Proofs.YtidhlpjgifoneaaGreat
