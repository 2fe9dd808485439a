/- The abstract walk. -/
import Derived.Test.YtidhlpjgifoneaaGreatK09
import Derived.RangeFuncNested
set_option linter.unusedVariables false
set_option linter.unusedSimpArgs false
namespace Go.Proofs.YtidhlpjgifoneaaGreat
open Go.RowKit List
abbrev MeSt (cx:Cx)(γ:Gam)(me:List (Nat×Ent))(w:World):Prop:=StG cx γ ⟨[],me⟩ ⟨#[],[]⟩ w
def Cx.sub (cx:Cx)(γ γc:Gam)(w:World):Cx:=⟨{ cx.E with np:=0 },fun b=>cx.S0 b\/(own γ b/\¬own γc b),cx.w0,0,fun _=>False,w,none,#[],fun _=>rfl⟩
def memL (ρ:Nat->Nat)(ids:List Nat)(j:Nat):Option Nat:=ids.find? fun i=>Nat.beq (ρ i) j
variable {ρ:Nat->Nat}{ids:List Nat}{j:Nat}
theorem zjg {i:Nat}(h:memL ρ ids j=some i):i∈ids/\ρ i=j:=by
 have h1:=mem_of_find?_eq_some h
 have h2:=find?_some h
 exact ⟨h1,Nat.eq_of_beq_eq_true h2⟩
theorem yi9 (h:memL ρ ids j=none):∀ i∈ids,ρ i≠j:=fun i hi e=>by
 have:=find?_eq_none.1 h i hi
 simp [e] at this
theorem yia {i:Nat}(hinj:injB ρ ids=true)(hi:i∈ids):memL ρ ids (ρ i)=some i:=by
 cases h:memL ρ ids (ρ i) with
 |none=>exact absurd rfl (yi9 h i hi)
 |some k =>
  obtain ⟨h1,h2⟩:=zjg h
  simp only [injB,all_eq_true,Bool.or_eq_true,Bool.not_eq_true'] at hinj
  rcases hinj k h1 i hi with h3|h3
  ·rw [h2] at h3;simp at h3
  ·rw [Nat.eq_of_beq_eq_true h3]
section
variable {cx:Cx} {γ:Gam} {τ:AS} {a:Act} {w:World}
theorem StG.own_ge (h:StG cx γ τ a w){b:Nat}(ho:own γ b):cx.w0.heap.size<=b/\¬cx.S0 b/\b<w.heap.size:=⟨(h.ge b ho).1.1,(h.ge b ho).1.2,(h.ge b ho).2⟩
variable {me:List (Nat×Ent)}
theorem StG.part (h:StG cx γ τ a w)(hinj:injB ρ (me.map (·.1))=true)(h2:LeE τ ρ (me.map (·.1)) me) :
  ∃ γc:Gam,(∀ i∈me.map (·.1),γc i=γ (ρ i))/\(∀ i,i ∉ me.map (·.1)->γc i=none)/\(∀ b,own γc b->own γ b) /\
   (∀ b,Sg (Cx.sub cx γ γc w).S0 cx.w0.heap.size γc b ↔ Sg cx.S0 cx.w0.heap.size γ b)/\MeSt (Cx.sub cx γ γc w) γc me w:=by
 generalize hids:me.map (·.1)=ids at *
 have hmem:∀ i,lkE me i≠none ↔ i∈ids:=fun i=>by rw [zoc,hids]
 let γc:Gam:=fun i=>if i∈ids then γ (ρ i) else none
 have hγ:∀ i,i∈ids->γc i=γ (ρ i):=fun i hi=>if_pos hi
 have hγn:∀ i,i ∉ ids->γc i=none:=fun i hi=>if_neg hi
 have hown:∀ b,own γc b->own γ b:=fun b ⟨i,s,hi,hb⟩=>by
  by_cases hm:i∈ids
  ·rw [hγ i hm] at hi;exact ⟨_,s,hi,hb⟩
  ·rw [hγn i hm] at hi;cases hi
 have hS:∀ b,Sg (Cx.sub cx γ γc w).S0 cx.w0.heap.size γc b ↔ Sg cx.S0 cx.w0.heap.size γ b:=fun b=>by
  constructor
  ·rintro (⟨h1|⟨h1,_⟩,h3⟩|⟨⟨h1,h3⟩,h4⟩)
   ·exact Or.inl ⟨h1,h3⟩
   ·have:=(h.own_ge h1).1;omega
   ·exact Or.inr ⟨⟨h1,fun h5=>h3 (Or.inl h5)⟩,fun h5=>h3 (Or.inr ⟨h5,h4⟩)⟩
  ·rintro (⟨h1,h3⟩|⟨⟨h1,h3⟩,h4⟩)
   ·exact Or.inl ⟨Or.inl h1,h3⟩
   ·exact Or.inr ⟨⟨h1,fun h5=>h5.elim h3 (fun h6=>h4 h6.1)⟩,fun h5=>h4 (hown b h5)⟩
 have hmv:∀ {g:Gam} {av v},Rep w (Sg cx.S0 cx.w0.heap.size γ) g av v->Rep w (Sg (Cx.sub cx γ γc w).S0 cx.w0.heap.size γc) g av v:=fun h=>h.mono (Nat.le_refl _) (fun b hb _=>⟨rfl,(hS b).2 hb⟩)
 refine ⟨γc,hγ,hγn,hown,hS,fun t=>.any _,fun i=>?_,fun i j b s s' hi hj mi mj=>?_,fun b hb=>?_,h.below,rfl,⟨fun _=>rfl,⟨[],rfl,.nil,fun r hr=>by cases hr⟩,fun t ht=>absurd ht (Nat.not_lt_zero _),fun l R hl=>?_,Nat.le_refl _⟩,fun b hb=>?_,fun b hb=>hb.elim,h.dr⟩
 ·rcases h2.get i with ha|⟨e,ha,hf,hm⟩
  ·unfold AS.find
   rw [ha]
   have:i ∉ ids:=fun hi=>(hmem i).2 hi ha
   exact if_neg this
  ·unfold AS.find
   rw [ha]
   have hi:i∈ids:=(hmem i).1 (by rw [ha];simp)
   rw [hγ i hi]
   have:=h.me (ρ i)
   rw [hf] at this
   obtain ⟨x,hx,he⟩:=this
   refine ⟨x,hx,?_⟩
   cases e with
   |box ty cs =>
    obtain ⟨g,vs,hd,hb,hsz,hr,hone⟩:=he
    simp only [Ent.inM] at hm
    refine ⟨g,vs,hd,hb,by rw [hsz,AV.renL_length],fun k hk=>hmv ((hr k (by rw [AV.renL_length];exact hk)).ren hγ _ (AV.renL_at _ _ _ _) (AV.inML_at hm k hk)),hone⟩
   |row ty sz xs =>
    obtain ⟨s,vs,hd,h1,hown,hlen,hr,hone⟩:=he
    exact ⟨s,vs,hd,h1,hown,hlen,fun k hk j hj=>hmv (hr k hk j hj),hone⟩
   |mp ps =>
    obtain ⟨g,hd,hm⟩:=he
    exact ⟨g,hd,hm.move (Nat.le_refl _) (fun b hb _=>⟨rfl,(hS b).2 hb⟩) rfl⟩
   |nest ty es=>exact z8s.nest_mono he (fun b hb=>(hS b).2 hb)
   |mpn ps=>exact z8s.mpn_mono he (fun b hb=>(hS b).2 hb)
   |are ty idx os=>exact he.gmono (fun _ _ h=>by cases h) (fun b hb=>(hS b).2 hb)
   |it ps=>exact he.gmono (fun _ _ h=>by cases h) (fun b hb=>(hS b).2 hb)
   |itp ps=>exact he.gmono (fun _ _ h=>by cases h) (fun b hb=>(hS b).2 hb)
   |itc p ps=>exact he.gmono (fun _ _ h=>by cases h) (fun b hb=>(hS b).2 hb)
   |dead=>exact he
 ·by_cases h1:i∈ids
  ·by_cases h2:j∈ids
   ·rw [hγ i h1] at hi
    rw [hγ j h2] at hj
    have e:=h.inj _ _ _ _ _ hi hj mi mj
    simp only [injB,all_eq_true,Bool.or_eq_true,Bool.not_eq_true'] at hinj
    rcases hinj i h1 j h2 with h3|h3
    ·rw [e] at h3;simp at h3
    ·exact Nat.eq_of_beq_eq_true h3
   ·rw [hγn j h2] at hj;cases hj
  ·rw [hγn i h1] at hi;cases hi
 ·obtain ⟨q1,q2,q3⟩:=h.own_ge (hown b hb)
  exact ⟨⟨q1,fun h5=>h5.elim q2 (fun h6=>h6.2 hb)⟩,q3⟩
 ·obtain ⟨q0,q1,q2,q3⟩:=h.defers.yl l R hl
  exact ⟨q0,q1,fun ho=>q2 (hown l ho),q3⟩
 ·rcases hb with hb|⟨hb,_⟩
  ·exact h.gh b hb
  ·exact (h.own_ge hb).2.2
def wrG (ρ':Nat->Nat)(me':List (Nat×Ent))(dead:List Nat):List (Nat×Ent):=me'.map (fun x=>(ρ' x.1,x.2.renI ρ'))++dead.map fun i=>(i,.dead)
def y1w:List Nat->Bool
 |[]=>true
 |x::r=>!memB x r && y1w r
variable {l:List (Nat×Ent)}
theorem yig (h:y1w (l.map (·.1))=true):∀ x∈l,lkE l x.1=some x.2:=by
 induction l with
 |nil=>intro x hx;cases hx
 |cons y r ih =>
  obtain ⟨u,e⟩:=y
  simp only [map_cons,y1w,Bool.and_eq_true,Bool.not_eq_true'] at h
  intro x hx
  rcases mem_cons.1 hx with rfl|hx
  ·simp [lkE]
  ·have hne:¬u=x.1:=fun e=>by
    have:memB u (r.map (·.1))=true:=(zet _ _).2 (by rw [e];exact mem_map.2 ⟨x,hx,rfl⟩)
    rw [h.1] at this;cases this
   have hb:Nat.beq u x.1=false:=by
    cases hq:Nat.beq u x.1 with
    |true=>exact absurd (Nat.eq_of_beq_eq_true hq) hne
    |false=>rfl
   simp only [lkE,hb]
   exact ih h.2 x hx
theorem y1y {i:Nat}{e:Ent}(h:lkE l i=some e):(i,e)∈l:=by
 induction l with
 |nil=>simp [lkE] at h
 |cons x r ih =>
  obtain ⟨u,e'⟩:=x
  simp only [lkE] at h
  cases hb:Nat.beq u i with
  |true =>
   rw [hb] at h
   injection h with h
   rw [<-Nat.eq_of_beq_eq_true hb,h];exact mem_cons_self ..
  |false=>rw [hb] at h;exact mem_cons_of_mem _ (ih h)
variable {ρ':Nat->Nat}{me':List (Nat×Ent)}{dead:List Nat}
theorem wrG_get (hnd:y1w (me'.map (·.1))=true){e:Ent}(h:lkE (wrG ρ' me' dead) j=some e) :
  (∃ i e0,lkE me' i=some e0/\i∈me'.map (·.1)/\ρ' i=j/\e=e0.renI ρ')\/((∀ i∈me'.map (·.1),ρ' i≠j)/\j∈dead/\e=.dead):=by
 unfold wrG at h
 rw [y1z] at h
 cases h1:lkE (me'.map fun x=>(ρ' x.1,x.2.renI ρ')) j with
 |some e1 =>
  rw [h1] at h
  simp only [Option.some_or,Option.some.injEq] at h
  subst h
  obtain ⟨x,hx,hxe⟩:=mem_map.1 (y1y h1)
  injection hxe with q1 q2
  exact Or.inl ⟨x.1,x.2,yig hnd x hx,mem_map.2 ⟨x,hx,rfl⟩,q1,q2.symm⟩
 |none =>
  rw [h1] at h
  simp only [Option.none_or] at h
  obtain ⟨x,hx,hxe⟩:=mem_map.1 (y1y h)
  injection hxe with q1 q2
  refine Or.inr ⟨fun i hi e=>?_,q1▸hx,q2.symm⟩
  obtain ⟨y,hy,rfl⟩:=mem_map.1 hi
  have:lkE (me'.map fun x=>(ρ' x.1,x.2.renI ρ')) j≠none:=by
   rw [zoc]
   exact mem_map.2 ⟨(ρ' y.1,y.2.renI ρ'),mem_map.2 ⟨y,hy,rfl⟩,e⟩
  exact this h1
theorem yk7 (h:lkE (wrG ρ' me' dead) j=none):(∀ i∈me'.map (·.1),ρ' i≠j)/\j ∉ dead:=by
 constructor
 ·intro i hi e
  obtain ⟨y,hy,rfl⟩:=mem_map.1 hi
  have:lkE (wrG ρ' me' dead) j≠none:=by
   rw [zoc]
   unfold wrG
   rw [map_append]
   exact mem_append_left _ (mem_map.2 ⟨(ρ' y.1,y.2.renI ρ'),mem_map.2 ⟨y,hy,rfl⟩,e⟩)
  exact this h
 ·intro hd
  have:lkE (wrG ρ' me' dead) j≠none:=by
   rw [zoc]
   unfold wrG
   rw [map_append]
   exact mem_append_right _ (mem_map.2 ⟨(j,.dead),mem_map.2 ⟨j,hd,rfl⟩,rfl⟩)
  exact this h
def y2w (me me':List (Nat×Ent))(i:Nat):Bool:=match lkE me i,lkE me' i with
 |some (.box _ _),_=>true
 |some (.row _ _ _),some _=>true
 |_,_=>false
def ylc (τf:Nat->Option Ent)(ρ ρ':Nat->Nat)(me:List (Nat×Ent))(i:Nat):Bool:=match lkE me i,τf (ρ' i) with
 |some (.box _ _),_=>Nat.beq (ρ' i) (ρ i)
 |some (.row _ _ _),_=>Nat.beq (ρ' i) (ρ i)
 |_,none=>true
 |_,_=>false
theorem StG.join (h:StG cx γ τ a w){γc γc':Gam}{w':World}{dst:Option Nat}{u:Value}{res:AV}(hinj:injB ρ (me.map (·.1))=true)(hc1:∀ i∈me.map (·.1),γc i=γ (ρ i))(hc2:∀ i,i ∉ me.map (·.1)->γc i=none)
  (hst:MeSt (Cx.sub cx γ γc w) γc' me' w') (hz:w.heap.size<=w'.heap.size) (hbox:∀ i,y2w me me' i=true->γc' i=γc i) (hfr:∀ b,¬own γc b->b<w.heap.size->w'.heap[b]? = w.heap[b]? /\ ¬own γc' b) (hdr:cx.E.dr=true->w.drawn<=w'.drawn)
  (hd:∀ x,dst=some x->cx.E.np<=x/\x<cx.nt) (hnd:y1w (me'.map (·.1))=true) (hinj':injB ρ' (me'.map (·.1))=true) (hin:me'.all (fun x=>x.2.inM (me'.map (·.1)))=true) (hkeep:(me'.map (·.1)).all (ylc τ.find ρ ρ' me)=true)
  (hcov:(me.map (·.1)).all (fun i=>memB (ρ i) dead || (me'.map (·.1)).any fun k=>Nat.beq (ρ' k) (ρ i))=true) (hdead:dead.all (fun j=>(me.map (·.1)).any fun i=>Nat.beq (ρ i) j)=true)
  (hu:Rep w' (Sg (Cx.sub cx γ γc w).S0 cx.w0.heap.size γc') γc' res u) (hres:res.inM (me'.map (·.1))=true) :
  ∃ γ',StG cx γ' (τ.upd dst (res.ren ρ') (wrG ρ' me' dead)) (a.put dst u) w':=by
 generalize hids:me.map (·.1)=ids at *
 generalize hids':me'.map (·.1)=ids' at *
 have hmem':∀ i,lkE me' i≠none ↔ i∈ids':=fun i=>by rw [zoc,hids']
 let γ':Gam:=fun j=>match memL ρ' ids' j with|some i=>γc' i|none=>(match memL ρ ids j with|some _=>some none|none=>γ j)
 have F1:∀ i∈ids',γ' (ρ' i)=γc' i:=fun i hi=>by
  show (match memL ρ' ids' (ρ' i) with|some i=>γc' i|none=>_)=_
  rw [yia hinj' hi]
 have F2:∀ j,(∀ i∈ids',ρ' i≠j)->(∃ i∈ids,ρ i=j)->γ' j=some none:=fun j h1 ⟨i,hi,e⟩=>by
  show (match memL ρ' ids' j with|some i=>γc' i|none=>_)=_
  have e1:memL ρ' ids' j=none:=by
   cases hq:memL ρ' ids' j with
   |none=>rfl
   |some k=>exact absurd (zjg hq).2 (h1 k (zjg hq).1)
  rw [e1]
  subst e
  show (match memL ρ ids (ρ i) with|some _=>some none|none=>γ (ρ i))=_
  rw [yia hinj hi]
 have F3:∀ j,(∀ i∈ids',ρ' i≠j)->(∀ i∈ids,ρ i≠j)->γ' j=γ j:=fun j h1 h2=>by
  show (match memL ρ' ids' j with|some i=>γc' i|none=>_)=_
  have e1:memL ρ' ids' j=none:=by
   cases hq:memL ρ' ids' j with
   |none=>rfl
   |some k=>exact absurd (zjg hq).2 (h1 k (zjg hq).1)
  have e2:memL ρ ids j=none:=by
   cases hq:memL ρ ids j with
   |none=>rfl
   |some k=>exact absurd (zjg hq).2 (h2 k (zjg hq).1)
  rw [e1]
  show (match memL ρ ids j with|some _=>some none|none=>γ j)=_
  rw [e2]
 have hownc:∀ b,own γc b->own γ b:=fun b ⟨i,s,hi,hb⟩=>by
  by_cases hm:i∈ids
  ·rw [hc1 i hm] at hi;exact ⟨_,s,hi,hb⟩
  ·rw [hc2 i hm] at hi;cases hi
 -- what another name owns is not given
 have hother:∀ j b s,(∀ i∈ids,ρ i≠j)->γ j=some s->b∈blks s->¬own γc b:=fun j b s hj hb hbm ⟨i,s',hi,him⟩=>by
  by_cases hm:i∈ids
  ·rw [hc1 i hm] at hi
   exact hj i hm (h.inj _ _ _ _ _ hi hb him hbm)
  ·rw [hc2 i hm] at hi;cases hi
 have hcase:∀ j,(∃ i∈ids',ρ' i=j)\/((∀ i∈ids',ρ' i≠j)/\((∃ i∈ids,ρ i=j)\/∀ i∈ids,ρ i≠j)):=fun j=>by
  by_cases h1:∃ i∈ids',ρ' i=j
  ·exact Or.inl h1
  ·refine Or.inr ⟨fun i hi e=>h1 ⟨i,hi,e⟩,?_⟩
   by_cases h2:∃ i∈ids,ρ i=j
   ·exact Or.inl h2
   ·exact Or.inr (fun i hi e=>h2 ⟨i,hi,e⟩)
 have hown:∀ b,own γ' b->own γc' b\/(own γ b/\¬own γc b):=fun b ⟨j,s,hj,hm⟩=>by
  rcases hcase j with ⟨i,hi,rfl⟩|⟨h1,h2|h2⟩
  ·rw [F1 i hi] at hj;exact Or.inl ⟨i,s,hj,hm⟩
  ·rw [F2 j h1 h2] at hj;injection hj with hj;subst hj;simp [blks] at hm
  ·rw [F3 j h1 h2] at hj;exact Or.inr ⟨⟨j,s,hj,hm⟩,hother j b s h2 hj hm⟩
 have hno:∀ b,¬own γ b->b<w.heap.size->w'.heap[b]? = w.heap[b]? /\ ¬own γ' b:=fun b hb hlt=>by
  obtain ⟨q1,q2⟩:=hfr b (fun ho=>hb (hownc b ho)) hlt
  exact ⟨q1,fun ho=>(hown b ho).elim q2 (fun h=>hb h.1)⟩
 have hS:∀ b,Sg (Cx.sub cx γ γc w).S0 cx.w0.heap.size γc' b->Sg cx.S0 cx.w0.heap.size γ' b:=by
  rintro b (⟨h1|⟨h1,_⟩,h3⟩|⟨⟨h1,h3⟩,h4⟩)
  ·exact Or.inl ⟨h1,h3⟩
  ·have:=(h.own_ge h1).1;omega
  ·exact Or.inr ⟨⟨h1,fun h5=>h3 (Or.inl h5)⟩,fun ho=>(hown b ho).elim h4 (fun h6=>h3 (Or.inr h6))⟩
 have hnoS:∀ b,Sg cx.S0 cx.w0.heap.size γ b->¬own γ b:=fun b hS ho=>by
  rcases hS with ⟨_,h1⟩|⟨_,h1⟩
  ·have:=(h.own_ge ho).1;omega
  ·exact h1 ho
 have hmv:∀ {g:Gam} {av v},Rep w' (Sg (Cx.sub cx γ γc w).S0 cx.w0.heap.size γc') g av v->Rep w' (Sg cx.S0 cx.w0.heap.size γ') g av v:=fun h=>h.mono (Nat.le_refl _) (fun b hb _=>⟨rfl,hS b hb⟩)
 simp only [all_eq_true] at hin hkeep hcov hdead
 have hkeep':∀ i∈ids',(y2w me me' i=true/\i∈ids/\ρ' i=ρ i)\/τ.find (ρ' i)=none:=fun i hi=>by
  have hk:=hkeep i hi
  have hne:=(hmem' i).2 hi
  have hid:lkE me i≠none->i∈ids:=fun hb=>by rw [<-hids];exact zoc.1 hb
  unfold ylc at hk
  split at hk
  ·rename_i ty es hb;exact Or.inl ⟨by unfold y2w;rw [hb],hid (by rw [hb];simp),Nat.eq_of_beq_eq_true hk⟩
  ·rename_i ty sz xs hb
   refine Or.inl ⟨?_,hid (by rw [hb];simp),Nat.eq_of_beq_eq_true hk⟩
   unfold y2w
   cases hq:lkE me' i with
   |none=>exact absurd hq hne
   |some e=>rw [hb]
  ·first|(rename_i hf _ _;exact Or.inr hf)|(rename_i hf _;exact Or.inr hf)|(rename_i _ _ hf;exact Or.inr hf)|(rename_i hf;exact Or.inr hf)
  ·cases hk
 refine ⟨γ',h.step (γ':=γ') hd hz (fun b hb hlt=>⟨(hno b (hnoS b hb) hlt).1,?_⟩) (fun j x hj=>?_) (fun j hj=>?_) (fun j e hj=>?_) (fun i j b s s' hi hj mi mj=>?_) (fun b hb=>?_) hst.below ?_ hno hdr⟩
 ·have hn:=(hno b (hnoS b hb) hlt).2
  rcases hb with hb|⟨h1,_⟩
  ·exact Or.inl hb
  ·exact Or.inr ⟨h1,hn⟩
 ·rcases hcase j with ⟨i,hi,rfl⟩|⟨h1,h2|h2⟩
  ·rcases hkeep' i hi with ⟨hb,hii,e⟩|hn
   ·left
    rw [F1 i hi,hbox i hb,hc1 i hii,<-e];exact hj
   ·have:=h.me (ρ' i)
    rw [hn] at this
    rw [show γ (ρ' i)=none from this] at hj;cases hj
  ·exact Or.inr (Or.inl (F2 j h1 h2))
  ·exact Or.inl (by rw [F3 j h1 h2];exact hj)
 ·obtain ⟨h1,h2⟩:=yk7 hj
  rw [hids'] at h1
  have h3:∀ i∈ids,ρ i≠j:=fun i hi e=>by
   have hc:=hcov i hi
   rw [Bool.or_eq_true] at hc
   rcases hc with hc|hc
   ·exact h2 (by rw [<-e];exact (zet _ _).1 hc)
   ·obtain ⟨k,hk,hke⟩:=any_eq_true.1 hc
    exact h1 k hk ((Nat.eq_of_beq_eq_true hke).trans e)
  refine ⟨F3 j h1 h3,fun g s hg hm=>(hfr g (hother j g s h3 hg hm) (h.ge g ⟨j,s,hg,hm⟩).2).1⟩
 ·rcases wrG_get (by rw [hids'];exact hnd) hj with ⟨i,e0,he0,hi,rfl,rfl⟩|⟨h1,h2,rfl⟩
  ·rw [hids'] at hi
   have:=hst.me i
   unfold AS.find at this
   rw [he0] at this
   obtain ⟨x,hx,he⟩:=this
   refine ⟨x,by rw [F1 i hi];exact hx,?_⟩
   have hm:=hin (i,e0) (y1y he0)
   cases e0 with
   |box ty cs =>
    obtain ⟨g,vs,hdd,hb,hsz,hr,hone⟩:=he
    simp only [Ent.inM] at hm
    refine ⟨g,vs,hdd,hb,by rw [hsz,AV.renL_length],fun k hk=>?_,hone⟩
    have hk':=hk
    rw [AV.renL_length] at hk'
    rw [AV.renL_at ρ' _ k hk']
    exact hmv ((hr k hk').renF F1 (AV.inML_at hm k hk'))
   |row ty sz xs =>
    obtain ⟨s,vs,hdd,h1,hown,hlen,hr,hone⟩:=he
    exact ⟨s,vs,hdd,h1,hown,hlen,fun k hk j hj=>hmv (hr k hk j hj),hone⟩
   |mp ps =>
    obtain ⟨g,hdd,hm⟩:=he
    exact ⟨g,hdd,hm.move (Nat.le_refl _) (fun b hb _=>⟨rfl,hS b hb⟩) rfl⟩
   |nest ty es=>exact z8s.nest_mono he hS
   |mpn ps=>exact z8s.mpn_mono he hS
   |are ty idx os=>exact he.gmono (fun _ _ h=>by cases h) hS
   |it ps=>exact he.gmono (fun _ _ h=>by cases h) hS
   |itp ps=>exact he.gmono (fun _ _ h=>by cases h) hS
   |itc p ps=>exact he.gmono (fun _ _ h=>by cases h) hS
   |dead=>exact he
  ·rw [hids'] at h1
   obtain ⟨i,hi,hie⟩:=any_eq_true.1 (hdead j h2)
   exact ⟨none,F2 j h1 ⟨i,hi,Nat.eq_of_beq_eq_true hie⟩,rfl⟩
 ·rcases hcase i with ⟨k,hk,rfl⟩|⟨h1,h2|h2⟩
  ·rw [F1 k hk] at hi
   rcases hcase j with ⟨k',hk',rfl⟩|⟨h1',h2'|h2'⟩
   ·rw [F1 k' hk'] at hj
    rw [hst.inj _ _ _ _ _ hi hj mi mj]
   ·rw [F2 j h1' h2'] at hj;injection hj with hj;subst hj;simp [blks] at mj
   ·rw [F3 j h1' h2'] at hj
    exact absurd (Or.inr ⟨⟨j,s',hj,mj⟩,hother j b s' h2' hj mj⟩) (hst.ge b ⟨k,s,hi,mi⟩).1.2
  ·rw [F2 i h1 h2] at hi;injection hi with hi;subst hi;simp [blks] at mi
  ·rw [F3 i h1 h2] at hi
   rcases hcase j with ⟨k',hk',rfl⟩|⟨h1',h2'|h2'⟩
   ·rw [F1 k' hk'] at hj
    exact absurd (Or.inr ⟨⟨i,s,hi,mi⟩,hother i b s h2 hi mi⟩) (hst.ge b ⟨k',s',hj,mj⟩).1.2
   ·rw [F2 j h1' h2'] at hj;injection hj with hj;subst hj;simp [blks] at mj
   ·rw [F3 j h1' h2'] at hj;exact h.inj _ _ _ _ _ hi hj mi mj
 ·rcases hown b hb with ho|⟨ho,_⟩
  ·have:=hst.ge b ho
   exact ⟨⟨this.1.1,fun h5=>this.1.2 (Or.inl h5)⟩,this.2⟩
  ·exact ⟨(h.ge b ho).1,Nat.lt_of_lt_of_le (h.ge b ho).2 hz⟩
 ·exact hmv (hu.renF F1 hres)
end
abbrev CalT:=Array Value->Array Value->World->(Ending->World->Prop)->Prop
def CalF (P:Program)(f k:Nat):CalT:=fun vs cs w R=>cs.size=k->Calls P f (vs++cs) w R
def CalY (P:Program)(l:Nat):CalT:=fun vs cs w R=>YieldAt Fence.wide 0 P l vs w R
def ConG (P:Program)(yl:Option (Nat×Obj))(C:CalT)(args caps:List AV)(me:List (Nat×Ent))(res:AV)(me':List (Nat×Ent)):Prop :=
 ∀ (cx:Cx) (γ:Gam) (w:World) (vs cs:Array Value),cx.E.P=P->cx.E.dr=false->(∀ x,yl=some x->cx.E.yl=some x)->cx.nt=0->cx.E.np=0->MeSt cx γ me w->vs.size=args.length ->
  (∀ i (hi:i<args.length),Rep w (Sg cx.S0 cx.w0.heap.size γ) γ args[i] (vs.getD i undef))->(∀ i (hi:i<caps.length),Rep w (Sg cx.S0 cx.w0.heap.size γ) γ caps[i] (cs.getD i undef)) ->
  C vs cs w fun e w'=>∃ u γ',e=.returned u/\MeSt cx γ' me' w'/\Rep w' (Sg cx.S0 cx.w0.heap.size γ') γ' res u/\w.heap.size<=w'.heap.size/\(∀ i,y2w me me' i=true->γ' i=γ i) /\
   (∀ b,¬own γ b->b<w.heap.size->w'.heap[b]? = w.heap[b]? /\ ¬own γ' b)
variable {σ:AS}{l:List (Nat×Ent)}
theorem LeE.congr {τ:AS}(h:LeE σ ρ ids l)(hc:∀ i∈l.map (·.1),τ.find (ρ i)=σ.find (ρ i)):LeE τ ρ ids l:=by
 induction l with
 |nil=>trivial
 |cons x r ih =>
  obtain ⟨i,e⟩:=x
  simp only [LeE] at h ⊢
  exact ⟨⟨(hc i (by simp)).trans h.1.1,h.1.2⟩,ih h.2 (fun j hj=>hc j (by simp at hj ⊢;exact Or.inr hj))⟩
def LeF (find:Nat->Option Ent)(ρ:Nat->Nat)(ids:List Nat):List (Nat×Ent)->Prop
 |[]=>True
 |(i,e)::r=>(find (ρ i)=some (e.renI ρ)/\e.inM ids=true)/\LeF find ρ ids r
theorem LeF.le (h:LeF σ.find ρ ids l):LeE σ ρ ids l:=by
 induction l with
 |nil=>trivial
 |cons x r ih=>exact ⟨h.1,ih h.2⟩
structure zhw (find:Nat->Option Ent) (ρ ρ':Nat->Nat) (me me':List (Nat×Ent)) (res:AV) (dead:List Nat):Prop where
 inj:injB ρ (me.map (·.1))=true
 nd:y1w (me'.map (·.1))=true
 inj':injB ρ' (me'.map (·.1))=true
 hin:me'.all (fun x=>x.2.inM (me'.map (·.1)))=true
 keep:(me'.map (·.1)).all (ylc find ρ ρ' me)=true
 cov:(me.map (·.1)).all (fun i=>memB (ρ i) dead || (me'.map (·.1)).any fun k=>Nat.beq (ρ' k) (ρ i))=true
 dd:dead.all (fun j=>(me.map (·.1)).any fun i=>Nat.beq (ρ i) j)=true
 res:res.inM (me'.map (·.1))=true
def idsG (ρ ρ':Nat->Nat)(me me':List (Nat×Ent)):List Nat:=(me.map (·.1)).map ρ++(me'.map (·.1)).map ρ'
variable {ρ':Nat->Nat}{me me':List (Nat×Ent)}{res:AV}{dead:List Nat}
theorem yg2 {find:Nat->Option Ent}(h:zhw find ρ ρ' me me' res dead)(id:Nat)(e:Ent)(he:lkE (wrG ρ' me' dead) id=some e):id∈idsG ρ ρ' me me':=by
 rcases wrG_get h.nd he with ⟨i,_,_,hi,rfl,_⟩|⟨_,h2,_⟩
 ·exact mem_append_right _ (mem_map_of_mem hi)
 ·have:=all_eq_true.1 h.dd id h2
  obtain ⟨i,hi,hie⟩:=any_eq_true.1 this
  rw [<-Nat.eq_of_beq_eq_true hie]
  exact mem_append_left _ (mem_map_of_mem hi)
theorem zhw.congr {f g:Nat->Option Ent}(h:zhw f ρ ρ' me me' res dead)(hc:∀ id∈idsG ρ ρ' me me',g id=f id):zhw g ρ ρ' me me' res dead:=by
 refine ⟨h.inj,h.nd,h.inj',h.hin,?_,h.cov,h.dd,h.res⟩
 have hk:=h.keep
 rw [all_eq_true] at hk ⊢
 intro i hi
 have:=hk i hi
 unfold ylc at this ⊢
 rw [hc (ρ' i) (mem_append_right _ (mem_map_of_mem hi))]
 exact this
section
variable {cx:Cx} {σ:AS} {o:Oper}
variable {w:World}
theorem yat {γ γc:Gam}{τ:AS}{a:Act}{w':World}{dst:Option Nat}{u:Value}{γ':Gam}(hst:StG cx γ τ a w)(hn:zhw τ.find ρ ρ' me me' res dead)(hdr0:cx.E.dr=false)
  (hd:∀ x,dst=some x->cx.E.np<=x/\x<cx.nt) (hc1:∀ i∈me.map (·.1),γc i=γ (ρ i)) (hc2:∀ i,i ∉ me.map (·.1)->γc i=none)
  (h1:MeSt (Cx.sub cx γ γc w) γ' me' w') (h2:Rep w' (Sg (Cx.sub cx γ γc w).S0 cx.w0.heap.size γ') γ' res u) (h3:w.heap.size<=w'.heap.size) (h4:∀ i,y2w me me' i=true->γ' i=γc i)
  (h5:∀ b,¬own γc b->b<w.heap.size->w'.heap[b]? = w.heap[b]? /\ ¬own γ' b):St cx (τ.upd dst (res.ren ρ') (wrG ρ' me' dead)) (a.put dst u) w' :=
 hst.join hn.inj hc1 hc2 h1 h3 h4 h5 (fun h=>absurd (hdr0.symm.trans h) (by simp)) hd hn.nd hn.inj' hn.hin hn.keep hn.cov hn.dd h2 hn.res
theorem zx1 {γ γc:Gam}{S S':Nat->Prop}{l m:List AV}{vs:Nat->Value}(hc1:∀ i∈ids,γc i=γ (ρ i))(hS:∀ b,S b->S' b)(he:AV.renL ρ l=m)(hin:AV.inML ids l=true)
  (h:∀ i (hi:i<m.length),Rep w S γ m[i] (vs i)):∀ i (hi:i<l.length),Rep w S' γc l[i] (vs i):=fun i hi=>by
 subst he
 have:=h i (by rw [AV.renL_length];exact hi)
 exact ((this.ren hc1 _ (AV.renL_at _ _ _ _) (AV.inML_at hin i hi))).mono (Nat.le_refl _) (fun b hb _=>⟨rfl,hS b hb⟩)
variable {x:Operand}{args:Array Operand}{tys:Array TypeId}{cargs:List AV}{yl:Option (Nat×Obj)}
theorem ycg {f:Nat}{cap:List AV}(ho:o.op=.call { callee:=.value x,args:=args,argTypes:=tys })(hd:dok cx o=true)(hxo:z0r x=true)(hok:args.toList.all z0r=true)(hx:σ.eval x=.fn f cap)
  (he:zfg cx.E f) (hdr0:cx.E.dr=false) (hra:AV.renL ρ cargs=zho σ args cap) (hia:AV.inML (me.map (·.1)) cargs=true) (hle:LeE σ ρ (me.map (·.1)) me) (hn:zhw σ.find ρ ρ' me me' res dead)
   (hyl:∀ x,yl=some x->cx.E.yl=some x) (hc:ConG cx.P yl (CalF cx.P f 0) cargs [] me res me'):z11 cx o σ (res.ren ρ') (idsG ρ ρ' me me') (wrG ρ' me' dead):=by
 refine ⟨yg2 hn,fun τ h1 h2 a w Q K ⟨γ,hst⟩ hK=>zhj (fun c hc=>by rw [ho] at hc;cases hc) ?_⟩
 have hop:o.op.operands=#[x]++args:=by simp [ho,Op.operands,Call.operands]
 obtain ⟨caps,hcx,hl,hr⟩:=zor hst hok hxo (fun y hy=>h1 y (by rw [hop];simp at hy ⊢;exact Or.inr hy)) (h1 x (by rw [hop];simp)) hx
 have hle':LeE τ ρ (me.map (·.1)) me:=hle.congr (fun i hi=>h2 _ (mem_append_left _ (mem_map_of_mem hi)))
 have hn':zhw τ.find ρ ρ' me me' res dead:=hn.congr (fun id hid=>h2 id hid)
 obtain ⟨γc,hc1,hc2,hown,hS,hme⟩:=hst.part hn.inj hle'
 unfold Oper.wp
 rw [zo8 ho hcx he]
 show Calls _ _ _ _ _
 have hal:(args.map a.eval++caps).size=cargs.length:=by rw [hl,<-hra,AV.renL_length]
 have H:=hc (Cx.sub cx γ γc w) γc w (args.map a.eval++caps) #[] rfl hdr0 hyl rfl rfl hme hal
  (zx1 (γ:=γ) (S:=Sg cx.S0 cx.w0.heap.size γ) (vs:=fun i=>(args.map a.eval++caps).getD i undef) hc1 (fun b hb=>(hS b).2 hb) hra hia hr) (fun i hi=>absurd hi (by simp)) rfl
 rw [Array.append_empty] at H
 refine H.mono ?_
 rintro e w' ⟨u,γ',rfl,q1,q2,q3,q4,q5⟩
 exact hK _ _ (yat hst hn' hdr0 (z9f hd) hc1 hc2 q1 q2 q3 q4 q5)
theorem y01 {P:Program}{l:Nat}{a:Act}(ho:o.op=.call { callee:=.value x,args:=args,argTypes:=tys })(hx:a.eval x=.func (.yield l) #[] #[]) :
  (execOp a.eval o).run P w=(Instr.yield l (args.map a.eval)).run P w:=by
 simp only [execOp,ho,resolve,hx,Deferred.ofValue,invoke,Sem.run_bind,Sem.run_pure,Result.andThen_ok,Array.empty_append]
theorem ygm {l:Nat}{T:Array Value}{cap ccaps:List AV}(ho:o.op=.call { callee:=.value x,args:=args,argTypes:=tys })(hd:dok cx o=true)(hxo:z0r x=true)(hok:args.toList.all z0r=true)(hx:σ.eval x=.yld l T cap)
  (hdr0:cx.E.dr=false) (hra:AV.renL ρ cargs=args.toList.map σ.eval) (hrc:AV.renL ρ ccaps=cap) (hia:AV.inML (me.map (·.1)) cargs=true) (hic:AV.inML (me.map (·.1)) ccaps=true) (hle:LeE σ ρ (me.map (·.1)) me) (hn:zhw σ.find ρ ρ' me me' res dead)
   (hyl:∀ x,yl=some x->cx.E.yl=some x) (hc:ConG cx.P yl (fun vs cs w R=>cs=T->CalY cx.P l vs cs w R) cargs ccaps me res me'):z11 cx o σ (res.ren ρ') (idsG ρ ρ' me me') (wrG ρ' me' dead):=by
 refine ⟨yg2 hn,fun τ h1 h2 a w Q K ⟨γ,hst⟩ hK=>?_⟩
 have hop:o.op.operands=#[x]++args:=by simp [ho,Op.operands,Call.operands]
 have h1a:∀ y∈args.toList,τ.eval y=σ.eval y:=fun y hy=>h1 y (by rw [hop];simp at hy ⊢;exact Or.inr hy)
 have hev:=hst.ev x hxo
 rw [h1 x (by rw [hop];simp),hx] at hev
 obtain ⟨hcx,hr⟩:=hev.yld_inv
 have hle':LeE τ ρ (me.map (·.1)) me:=hle.congr (fun i hi=>h2 _ (mem_append_left _ (mem_map_of_mem hi)))
 have hn':zhw τ.find ρ ρ' me me' res dead:=hn.congr (fun id hid=>h2 id hid)
 obtain ⟨γc,hc1,hc2,hown,hS,hme⟩:=hst.part hn.inj hle'
 have hal:(args.map a.eval).size=cargs.length:=by rw [Array.size_map];have:=congrArg length hra;rw [AV.renL_length,length_map,Array.length_toList] at this;exact this.symm
 have H:=hc (Cx.sub cx γ γc w) γc w (args.map a.eval) T rfl hdr0 hyl rfl rfl hme hal
  (zx1 (γ:=γ) (S:=Sg cx.S0 cx.w0.heap.size γ) (vs:=fun i=>(args.map a.eval).getD i undef) hc1 (fun b hb=>(hS b).2 hb) hra hia (fun i hi=>by
    have hi':i<args.size:=by simpa using hi
    simp only [getElem_map,Array.getElem_toList]
    have e:(args.map a.eval).getD i undef=a.eval args[i]:=by simp [Array.getD,hi']
    rw [e,<-h1a args[i] (by simp)]
    exact hst.ev _ (all_eq_true.mp hok _ (by simp))))
  (zx1 (γ:=γ) (S:=Sg cx.S0 cx.w0.heap.size γ) (vs:=fun i=>T.getD i undef) hc1 (fun b hb=>(hS b).2 hb) hrc hic hr) rfl
 obtain ⟨fn,tmps,assign,body,hy,hround⟩:=H
 refine ⟨fun _ _=>trivial,?_⟩
 rw [Oper.semAt_eq _ _ _ (fun c hc=>by rw [ho] at hc;cases hc),y01 ho hcx,hy]
 refine ⟨fun h=>by simp [Fence.wide] at h,RoundIn.mono (F:=cx.F) (n:=0) (hround:_) ?_⟩
 rintro e w' ⟨u,γ',rfl,q1,q2,q3,q4,q5⟩
 exact hK _ _ (yat hst hn' hdr0 (z9f hd) hc1 hc2 q1 q2 q3 q4 q5)
end
abbrev recR (fn:FuncId)(T:Array Value)(ps:Array Tmp)(assign body:Code)(D:Nat):Loop:={ state:=.ready,pending:=none,fn:=fn,tmps:=T,params:=ps,assign:=assign,body:=body,defers:=D }
section
variable {w:World} {r:Nat} {o:Obj}
theorem z1t {b:Nat}(h:b≠r):(w.putObj r o).heap[b]? = w.heap[b]? := World.putObj_heap_other h
theorem z5r:(w.putObj r o).heap.size=w.heap.size:=by simp [World.putObj]
variable {S:Nat->Prop}
theorem Rep.putObj {γ:Gam}{av:AV}{v:Value}(hn:∀ off,w.cell? ⟨r,off,none⟩=none)(hnm:∀ es c,w.heap[r]? ≠ some (.map es c))(h:Rep w S γ av v):Rep (w.putObj r o) S γ av v:=by
 have key:∀ b off u,w.cell? ⟨b,off,none⟩=some u->(w.putObj r o).cell? ⟨b,off,none⟩=some u:=fun b off u hu=>by
  have hne:b≠r:=fun e=>by subst e;rw [hn off] at hu;cases hu
  exact (World.cell?_of_block (w:=w) (a:=⟨b,off,none⟩) (z1t hne)).trans hu
 induction h with
 |any=>exact .any _
 |int=>exact .int _ _
 |bool=>exact .bool _
 |str=>exact .str _
 |nilp=>exact .nilp
 |ptr h hv=>exact .ptr h hv
 |elt h hv=>exact .elt h hv
 |nils=>exact .nils
 |sl A c cell hc hlen hb hr h1 ih =>
  refine .sl A c cell hc hlen (fun h0=>?_) (fun k hk j hj=>ih k hk j hj) h1
  obtain ⟨b,off,hA,hS,hlt,hcell⟩:=hb h0
  exact ⟨b,off,hA,hS,by rw [z5r];exact hlt,fun k j h1 h2=>key _ _ _ (hcell k j h1 h2)⟩
 |row h hv=>exact .row h hv
 |fn vs hl hr ih=>exact .fn vs hl ih
 |yld hr ih=>exact .yld ih
 |nilf=>exact .nilf
 |agg vs hl hr h1 ih=>exact .agg vs hl ih h1
 |tup vs hl hr ih=>exact .tup vs hl ih
 |ref b off cell hS hb hc hr h1 ih=>exact .ref b off cell hS (by rw [z5r];exact hb) (fun j hj=>key _ _ _ (hc j hj)) ih h1
 |der h hv=>exact .der h hv
 |cont h hv hl=>exact .cont h hv hl
 |mapv ps0 hp g es clock hb hS hg hh hl hk hv ih1 ih2=>exact .mapv ps0 hp g es clock hb hS (by rw [z5r];exact hg) ((z1t (fun e=>by subst e;exact hnm _ _ hh)).trans hh) hl ih1 ih2
 |mapn=>exact .mapn
 |slen A n c=>exact .slen A n c
variable {L:List MapEntry}{ps:List (AV×AV)}
theorem RepL.putObj (hn:∀ off,w.cell? ⟨r,off,none⟩=none)(hnm:∀ es c,w.heap[r]? ≠ some (.map es c))(h:RepL w S L ps):RepL (w.putObj r o) S L ps:=⟨h.1,fun j q q'=>⟨(h.2 j q q').1.putObj hn hnm,(h.2 j q q').2.putObj hn hnm⟩⟩
theorem RepM.putObj (hn:∀ off,w.cell? ⟨r,off,none⟩=none)(hnm:∀ es c,w.heap[r]? ≠ some (.map es c))(h:RepM w S L ps):RepM (w.putObj r o) S L ps:=by
 obtain ⟨ps0,h1,h2⟩:=h
 exact ⟨ps0,h1,RepL.putObj hn hnm h2⟩
theorem ItIs.putObj {g:Nat}{P P':Array MapEntry->Array Nat->Nat->Nat->Prop}(hn:∀ off,w.cell? ⟨r,off,none⟩=none)(hnm:∀ es c,w.heap[r]? ≠ some (.map es c))(hgr:g≠r)(h:ItIs w S g P)(hP:∀ es s c d,P es s c d->P' es s c d):ItIs (w.putObj r o) S g P':=by
 rcases h with ⟨bm,since,seen,c0,es,clock,h1,h2,h3,h4,h5,h6,h7,h8,h9⟩|⟨a,b,s,h1,h2⟩
 ·exact Or.inl ⟨bm,since,seen,c0,es,clock,(z1t hgr).trans h1,h2,by rw [z5r];exact h3,(z1t (fun e=>by subst e;exact hnm _ _ h4)).trans h4,h5,h6,h7,h8,hP _ _ _ _ h9⟩
 ·exact Or.inr ⟨a,b,s,(z1t hgr).trans h1,hP _ _ _ _ h2⟩
theorem z8s.putObj {γ:Gam}{B:Nat}{d:Option (Option Nat×Value)}{e:Ent}(hn:∀ off,w.cell? ⟨r,off,none⟩=none)(hnm:∀ es c,w.heap[r]? ≠ some (.map es c))(hd:∀ b,b∈blks d->b≠r)(h:z8s w S γ B d e):z8s (w.putObj r o) S γ B d e:=by
 cases e with
 |box ty cells =>
  obtain ⟨g,vs,hd',hb,hs,hr,h1⟩:=h
  exact ⟨g,vs,hd',(z1t (hd g (by rw [hd'];exact z4e))).trans hb,hs,fun i hi=>(hr i hi).putObj hn hnm,h1⟩
 |row ty sz xs =>
  obtain ⟨s,vs,hd',h1,hown,hc,hr,ho⟩:=h
  refine ⟨s,vs,hd',h1,⟨hown.1,hown.2.elim Or.inl (fun ⟨g,cap,cur,hv,hg,hh,q⟩=>Or.inr ⟨g,cap,cur,hv,hg,?_,q⟩)⟩,hc,fun k hk' j hj=>(hr k hk' j hj).putObj hn hnm,ho⟩
  subst hv
  exact (z1t (hd g (by rw [hd'];exact z4e))).trans hh
 |mp ps =>
  obtain ⟨g,hd',es,clock,q1,q2,qb,q3⟩:=h
  exact ⟨g,hd',es,clock,(z1t (hd g (by rw [hd'];exact z4e))).trans q1,q2,qb,fun j h h'=>⟨(q3 j h h').1.putObj hn hnm,(q3 j h h').2.putObj hn hnm⟩⟩
 |nest ty es =>
  obtain ⟨s,vs,hd',h1,hsz,⟨us,hown,hu,hus⟩,hns,hnd⟩:=h
  have hb0:∀ g,zaw s=some g->(w.putObj r o).heap[g]? = w.heap[g]? := fun g hg=>z1t (hd g (by rw [hd'];simp [blks,zh1,hg]))
  refine ⟨s,vs,hd',h1,hsz,⟨us,hown.moved fun g hg=>hb0 g hg,hu,hus⟩,fun k hk=>?_,hnd⟩
  have hbk:∀ g,zaw (vs.getD k undef)=some g->g≠r:=fun g hg=>hd g (by
   rw [hd']
   simp only [blks,Option.toList_none,nil_append,zh1,mem_filterMap]
   refine ⟨vs.getD k undef,?_,hg⟩
   have:k<vs.size:=by omega
   simp [Array.getD,this])
  have hk':=hns k hk
  generalize es[k]=e at hk'
  cases e with
  |row ty sz xs =>
   obtain ⟨q1,us',q2,q3,q4,q5⟩:=hk'
   exact ⟨q1,us',q2.moved (fun g hg=>z1t (hbk g hg)),q3,fun k hk j hj=>(q4 k hk j hj).putObj hn hnm,q5⟩
  |mp ps =>
   obtain ⟨g,ps0,hv,⟨es,clock,q1,q2,qb,q3⟩,hp⟩:=hk'
   exact ⟨g,ps0,hv,⟨es,clock,(z1t (hbk g (by rw [hv];rfl))).trans q1,q2,qb,fun j h h'=>⟨(q3 j h h').1.putObj hn hnm,(q3 j h h').2.putObj hn hnm⟩⟩,hp⟩
  |hole=>exact hk'
 |mpn ps =>
  obtain ⟨g,es,vs,hd',hh,hl,hsz,hbn,hkk,hvv,hns,hnd⟩:=h
  have hg0:(w.putObj r o).heap[g]? = w.heap[g]? := z1t (hd g (by rw [hd'];simp [blks,zh1,zaw]))
  refine ⟨g,es,vs,hd',hg0.trans hh,hl,hsz,hbn,fun j h h'=>(hkk j h h').putObj hn hnm,hvv,fun k hk=>?_,hnd⟩
  have hbk:∀ g,zaw (vs.getD k undef)=some g->g≠r:=fun g hg=>hd g (by
   rw [hd']
   simp only [blks,Option.toList_none,nil_append,zh1,mem_filterMap]
   refine ⟨vs.getD k undef,?_,hg⟩
   have:k<vs.size:=by omega
   simp [Array.getD,this])
  have hk':=hns k hk
  generalize (ps[k]).2=e at hk'
  cases e with
  |row ty sz xs =>
   obtain ⟨q1,us',q2,q3,q4,q5⟩:=hk'
   exact ⟨q1,us',q2.moved (fun g hg=>z1t (hbk g hg)),q3,fun k hk j hj=>(q4 k hk j hj).putObj hn hnm,q5⟩
  |mp ps =>
   obtain ⟨g,ps0,hv,⟨es,clock,q1,q2,qb,q3⟩,hp⟩:=hk'
   exact ⟨g,ps0,hv,⟨es,clock,(z1t (hbk g (by rw [hv];rfl))).trans q1,q2,qb,fun j h h'=>⟨(q3 j h h').1.putObj hn hnm,(q3 j h h').2.putObj hn hnm⟩⟩,hp⟩
  |hole=>exact hk'
 |are ty idx os =>
  obtain ⟨s,vs,us,hd',h1,hsz,hown,hu,hix,hns,hnd⟩:=h
  have hb0:∀ g,zaw s=some g->(w.putObj r o).heap[g]? = w.heap[g]? := fun g hg=>z1t (hd g (by rw [hd'];simp [blks,zh1,hg]))
  refine ⟨s,vs,us,hd',h1,hsz,hown.moved fun g hg=>hb0 g hg,hu,fun k hk=>⟨fun h=>((hix k hk).1 h).putObj hn hnm,(hix k hk).2⟩,fun k hk=>⟨(hns k hk).1,?_⟩,hnd⟩
  have hbk:∀ g,zaw (vs.getD k undef)=some g->g≠r:=fun g hg=>hd g (by
   rw [hd']
   simp only [blks,Option.toList_none,nil_append,zh1,mem_filterMap]
   refine ⟨vs.getD k undef,?_,hg⟩
   have:k<vs.size:=by omega
   simp [Array.getD,this])
  have hk':=(hns k hk).2
  generalize os[k]=e at hk'
  cases e with
  |row ty sz xs =>
   obtain ⟨q1,us',q2,q3,q4,q5⟩:=hk'
   exact ⟨q1,us',q2.moved (fun g hg=>z1t (hbk g hg)),q3,fun k hk j hj=>(q4 k hk j hj).putObj hn hnm,q5⟩
  |mp ps =>
   obtain ⟨g,ps0,hv,⟨es,clock,q1,q2,qb,q3⟩,hp⟩:=hk'
   exact ⟨g,ps0,hv,⟨es,clock,(z1t (hbk g (by rw [hv];rfl))).trans q1,q2,qb,fun j h h'=>⟨(q3 j h h').1.putObj hn hnm,(q3 j h h').2.putObj hn hnm⟩⟩,hp⟩
  |hole=>exact hk'
 |it ps =>
  obtain ⟨g,hd',hi⟩:=h
  exact ⟨g,hd',hi.putObj hn hnm (hd g (by rw [hd'];exact z4e)) (fun es s c d h=>RepM.putObj hn hnm h)⟩
 |itp ps =>
  obtain ⟨g,hd',hi⟩:=h
  exact ⟨g,hd',hi.putObj hn hnm (hd g (by rw [hd'];exact z4e)) (fun es s c d ⟨h0,s0,e,h1,h2,h3⟩=>⟨h0,s0,e,h1,h2,RepM.putObj hn hnm h3⟩)⟩
 |itc p ps =>
  obtain ⟨g,hd',hi⟩:=h
  exact ⟨g,hd',hi.putObj hn hnm (hd g (by rw [hd'];exact z4e)) (fun es s c d ⟨h0,s0,e,h1,h2,h3,h4⟩=>⟨h0,s0,e,h1,h2,⟨h3.1.putObj hn hnm,h3.2.putObj hn hnm⟩,RepM.putObj hn hnm h4⟩)⟩
 |dead=>exact h
theorem yi1 {k:Nat}(h:w.heap[r]? = some o)(ho:o.isCells=false)(off:Nat):w.cell? ⟨r,off,none⟩=none:=by
 cases hq:w.cell? ⟨r,off,none⟩ with
 |none=>rfl
 |some u =>
  obtain ⟨o',h1,h2⟩:=cells_of_cell hq
  rw [h] at h1
  injection h1 with h1
  rw [h1,h2] at ho;cases ho
end
section
variable {cx:Cx} {γ:Gam} {σ:AS} {a:Act} {w:World}
theorem StG.putObj (h:StG cx γ σ a w){r:Nat}{o o':Obj}{ds:List Deferred}(hr:w.heap[r]? = some o)(ho:o.isCells=false)(hB:cx.w0.heap.size<=r)(hno:¬own γ r)(hbk:Book cx γ { a with defers:=ds } (w.putObj r o'))(hfr:∀ b,cx.Fr b->b≠r)(hom:∀ es c,o≠.map es c:=by intro es c h;cases h):StG cx γ σ { a with defers:=ds } (w.putObj r o'):=by
 have hn:=yi1 (k:=0) hr ho
 have hnm:∀ es c,w.heap[r]? ≠ some (.map es c):=fun es c h=>by rw [hr] at h;injection h with h;exact hom es c h
 have hne:∀ b,own γ b->b≠r:=fun b hb e=>hno (e▸hb)
 refine ⟨fun t=>(h.tm t).putObj hn hnm,fun id=>?_,h.inj,fun b hb=>by rw [z5r];exact h.ge b hb,h.below.trans ⟨rfl,rfl,rfl,by rw [z5r];exact Nat.le_refl _,fun b hb=>z1t (by omega)⟩,h.size,hbk,fun b hb=>by rw [z5r];exact h.gh b hb,fun b hb=>?_,h.dr⟩
 ·have:=h.me id
  cases hf:σ.find id with
  |none=>rw [hf] at this;exact this
  |some e =>
   rw [hf] at this
   obtain ⟨x,hx,he⟩:=this
   exact ⟨x,hx,he.putObj hn hnm (fun b hb=>hne b ⟨id,x,hx,hb⟩)⟩
 ·obtain ⟨q1,q2,q3⟩:=h.fr b hb
  exact ⟨q1,by rw [z5r];exact q2,(z1t (hfr b hb)).trans q3⟩
end
def LeY (σ:AS)(ρ:Nat->Nat)(ids:List Nat):Nat->List AV->Prop
 |_,[]=>True
 |t,.any::r=>LeY σ ρ ids (t+1) r
 |t,x::r=>(σ.get t=x.ren ρ/\x.inM ids=true)/\LeY σ ρ ids (t+1) r
theorem LeY.at:∀ {l:List AV} {n:Nat},LeY σ ρ ids n l->∀ t (ht:t<l.length),l[t]=.any\/(σ.get (n+t)=l[t].ren ρ/\l[t].inM ids=true)
 |[],n,h,t,ht=>by simp at ht
 |x::r,n,h,t,ht=>by
  cases t with
  |zero =>
   cases x<;>first|exact Or.inl rfl|exact Or.inr h.1
  |succ t =>
   have hr:LeY σ ρ ids (n+1) r:=by cases x<;>first|exact h|exact h.2
   have:=hr.at t (by simpa using ht)
   rw [show n+1+t=n+(t+1) by omega] at this
   exact this
theorem WP.rangeFunc {cx:Cx}{g:Operand}{ps:Array Tmp}{assign body:Code}{Q:Exit->AS->Prop}{gf:Nat}{cap ycaps ccaps:List AV}
  (hrg:cx.E.rg=true) (hdr0:cx.E.dr=false) (hyl0:cx.E.yl=none) (hgo:z0r g=true) (hx:σ.eval g=.fn gf cap) (he:zfg cx.E gf)
  (hrc:AV.renL ρ ccaps=cap) (hic:AV.inML (me.map (·.1)) ccaps=true) (hy:LeY σ ρ (me.map (·.1)) 0 ycaps) (hle:LeE σ ρ (me.map (·.1)) me) (hn:zhw σ.find ρ ρ' me me' (.tup []) dead)
  (hiter:∀ (l D:Nat) (fn:FuncId) (T:Array Value),T.size=cx.nt->ConG cx.P (some (l,.loop (recR fn T ps assign body D))) (CalF cx.P gf 0) (.yld l T ycaps::ccaps) [] me (.tup []) me')
  (k:Q .normal (σ.upd none (.tup []) (wrG ρ' me' dead))):WP cx (.rangeFunc g ps assign body) Q σ:=by
 have hrd:cx.rd=none:=cx.hrd hrg
 intro a w ⟨γ,hst⟩
 have hev:=hst.ev g hgo
 rw [hx] at hev
 obtain ⟨caps,hcx,hl,_⟩:=hev.fn_inv
 refine wpIn_rangeFunc (fun fn hfn=>?_)
 obtain ⟨W1,hW1⟩:∃ W1,(w.alloc (.deferred (some []))).alloc (.loop (recR fn a.tmps ps assign body w.heap.size))=W1:=⟨_,rfl⟩
 have hL1:W1.heap[w.heap.size+1]? = some (.loop (recR fn a.tmps ps assign body w.heap.size)):=by
  rw [<-hW1];have:=World.alloc_heap_new (w.alloc (.deferred (some []))) (.loop (recR fn a.tmps ps assign body w.heap.size));rwa [World.size_alloc] at this
 have hK1:W1.heap[w.heap.size]? = some (.deferred (some [])):=by
  rw [<-hW1];exact (Below.heap_alloc _ _ _ (by simp)).trans (World.alloc_heap_new w _)
 have hs1:W1.heap.size=w.heap.size+2:=by rw [<-hW1];simp
 have hb1:Below w.heap.size w W1:=by rw [<-hW1];exact ((Below.refl _ w).alloc (Nat.le_refl _) _).alloc (by simp) _
 have hst1:StG cx γ (σ.upd none .any []) (a.put none undef) W1:=hst.grow (dst:=none) (av:=.any) (v:=undef) (fun x hx=>by cases hx) hb1 (fun h=>absurd (hdr0.symm.trans h) (by simp)) (.any _)
 have hxt:Ext σ (σ.upd none .any []):=⟨fun _=>rfl,fun _=>rfl⟩
 have hst1:StG cx γ σ a W1:=⟨fun t=>hst1.tm t,fun i=>hst1.me i,hst1.inj,hst1.ge,hst1.below,hst1.size,hst1.defers,hst1.gh,hst1.fr,hst1.dr⟩
 have hnl:∀ b,own γ b->b<w.heap.size:=fun b hb=>(hst.ge b hb).2
 have hBw:cx.w0.heap.size<=w.heap.size:=hst.below.size
 -- the iterator's part
 obtain ⟨γc,hc1,hc2,hown,hS,hme⟩:=hst1.part hn.inj hle
 let cxs:Cx:={ Cx.sub cx γ γc W1 with E:={ cx.E with np:=0,yl:=some (w.heap.size+1,.loop (recR fn a.tmps ps assign body w.heap.size)) },hrd:=fun _=>rfl }
 have hme':MeSt cxs γc me W1:=⟨hme.tm,hme.me,hme.inj,hme.ge,hme.below,rfl,⟨fun _=>rfl,⟨[],rfl,.nil,fun r hr=>by cases hr⟩,fun t ht=>absurd ht (Nat.not_lt_zero _),fun l R hlR=>by
  have e:some (w.heap.size+1,Obj.loop (recR fn a.tmps ps assign body w.heap.size))=some (l,R):=hlR
  injection e with e
  injection e with e1 e2
  subst e1 e2
  exact ⟨by show cx.w0.heap.size<=_;omega,by omega,fun ho=>by have:=hnl _ (hown _ ho);omega,hL1⟩,Nat.le_refl _⟩,hme.gh,fun b hb=>hb.elim,hme.dr⟩
 have hevc:=hst1.ev g hgo
 rw [hx] at hevc
 obtain ⟨caps',hcx',_,hrcap⟩:=hevc.fn_inv
 rw [hcx] at hcx'
 injection hcx' with _ _ hcx'
 subst hcx'
 have hcaps:=zx1 (γ:=γ) (γc:=γc) (w:=W1) (S:=Sg cx.S0 cx.w0.heap.size γ) (S':=Sg (Cx.sub cx γ γc W1).S0 cx.w0.heap.size γc) (vs:=fun i=>caps.getD i undef) hc1 (fun b hb=>(hS b).2 hb) hrc hic hrcap
 have hyld:Rep W1 (Sg (Cx.sub cx γ γc W1).S0 cx.w0.heap.size γc) γc (.yld (w.heap.size+1) a.tmps ycaps) (.func (.yield (w.heap.size+1)) #[] #[]):=.yld (fun t ht=>by
  rcases hy.at t ht with ha|⟨ha,hm⟩
  ·rw [ha];exact .any _
  ·rw [Nat.zero_add] at ha
   have r1:=hst1.tm t
   rw [ha] at r1
   exact (r1.ren hc1 _ rfl hm).mono (Nat.le_refl _) (fun b hb _=>⟨rfl,(hS b).2 hb⟩))
 have H:=hiter (w.heap.size+1) w.heap.size fn a.tmps hst.size cxs γc W1 (#[.func (.yield (w.heap.size+1)) #[] #[]]++caps) #[] rfl hdr0 (fun x hx=>hx) rfl rfl hme' (by
   have:=congrArg length hrc
   rw [AV.renL_length] at this
   simp [hl,this];omega)
  (fun i hi=>by
    match i with
    |0 =>
     have e:(#[Value.func (.yield (w.heap.size+1)) #[] #[]]++caps).getD 0 undef=.func (.yield (w.heap.size+1)) #[] #[]:=by
      rw [Array.getD_eq_getD_getElem?,Array.getElem?_append_left (by simp)];rfl
     rw [e];exact hyld
    |i+1 =>
     have:=hcaps i (by simpa using hi)
     have e:(#[Value.func (.yield (w.heap.size+1)) #[] #[]]++caps).getD (i+1) undef=caps.getD i undef:=by
      rw [Array.getD_eq_getD_getElem?,Array.getElem?_append_right (by simp),Array.getD_eq_getD_getElem?];simp
     rw [e];exact this)
  (fun i hi=>absurd hi (by simp)) rfl
 rw [Array.append_empty] at H
 refine ⟨w.heap.size+1,[{ target:=.collected w.heap.size,args:=#[] }],W1,{ target:=.fn (.func gf) caps,args:=#[.func (.yield (w.heap.size+1)) #[] #[]] },W1,gf,
  #[.func (.yield (w.heap.size+1)) #[] #[]]++caps,W1,?_,?_,?_,?_,fun h=>by simp [Fence.wide] at h,?_⟩
 ·show (Instr.enterLoop fn a.tmps ps assign body cx.rd).run cx.P w=_
  rw [hrd,<-hW1];exact run_enterLoop_outer _ _ _ _ _
 ·simp only [resolve,hcx]
  simp [go_sem]
 ·intro f' hf';trivial
 ·simp [invoke,go_sem,he _ _]
 ·refine CallsIn.mono (F:=cx.F) ((callsIn_wide (n:=0)).2 H:_) ?_
  rintro e W2 ⟨u,γ',rfl,q1,q2,q3,q4,q5⟩
  have hl2:W2.heap[w.heap.size+1]? = some (.loop (recR fn a.tmps ps assign body w.heap.size)):=(q5 _ (fun ho=>by have:=hnl _ (hown _ ho);omega) (by omega)).1.trans hL1
  have hk2:W2.heap[w.heap.size]? = some (.deferred (some [])):=(q5 _ (fun ho=>by have:=hnl _ (hown _ ho);omega) (by omega)).1.trans hK1
  refine ⟨none,_,run_endLoop (P:=cx.P) hl2 (by simp),?_⟩
  have q1':MeSt (Cx.sub cx γ γc W1) γ' me' W2:=⟨q1.tm,q1.me,q1.inj,q1.ge,q1.below,rfl,⟨fun _=>rfl,⟨[],rfl,.nil,fun r hr=>by cases hr⟩,fun t ht=>absurd ht (Nat.not_lt_zero _),fun l R hlR=>absurd (hyl0.symm.trans hlR) (by simp),q1.defers.sz⟩,q1.gh,fun b hb=>hb.elim,q1.dr⟩
  -- the marked blocks are no one's
  let cx2:Cx:={ cx with Fr:=fun b=>cx.Fr b\/b=w.heap.size\/b=w.heap.size+1,w1:=W1 }
  have hst2:StG cx2 γ σ a W1:=⟨hst1.tm,hst1.me,hst1.inj,hst1.ge,hst1.below,hst1.size,⟨hst1.defers.d0,hst1.defers.marks,hst1.defers.pin,hst1.defers.yl,Nat.le_refl _⟩,hst1.gh,fun b hb=>by
   rcases hb with hb|hb|hb
   ·obtain ⟨p1,p2,_⟩:=hst1.fr b hb;exact ⟨p1,p2,rfl⟩
   ·exact ⟨fun ho=>by have:=hnl _ ho;omega,by omega,rfl⟩
   ·exact ⟨fun ho=>by have:=hnl _ ho;omega,by omega,rfl⟩,hst1.dr⟩
  obtain ⟨γ'',hj⟩:=yat (cx:=cx2) (dst:=none) (τ:=σ) hst2 hn hdr0 (fun x hx=>by cases hx) hc1 hc2 q1' q2 q3 q4 q5
  obtain ⟨d1,d2,d3⟩:=hj.fr w.heap.size (Or.inr (Or.inl rfl))
  obtain ⟨l1,l2,l3⟩:=hj.fr (w.heap.size+1) (Or.inr (Or.inr rfl))
  have hj1:StG cx γ'' (σ.upd none (AV.ren ρ' (.tup [])) (wrG ρ' me' dead)) a W2:=⟨hj.tm,hj.me,hj.inj,hj.ge,hj.below,hj.size,⟨hj.defers.d0,hj.defers.marks,hj.defers.pin,hj.defers.yl,Nat.le_trans hst1.defers.sz hj.defers.sz⟩,hj.gh,fun b hb=>by
   obtain ⟨p1,p2,p3⟩:=hj.fr b (Or.inl hb)
   obtain ⟨p4,p5,p6⟩:=hst1.fr b hb
   exact ⟨p1,p2,p3.trans p6⟩,hj.dr⟩
  obtain ⟨rs,m1,m2,m3⟩:=hj1.defers.marks
  have hold:∀ r∈rs,r<w.heap.size:=fun r hr=>by
   obtain ⟨rs0,n1,n2,n3⟩:=hst.defers.marks
   have:rs0=rs:=by
    have e:=n1.symm.trans m1
    have hinj:∀ (x y:Nat),({ target:=.collected x,args:=#[] }:Deferred)={ target:=.collected y,args:=#[] }->x=y:=fun x y h=>by injection h with h _;injection h
    exact (List.map_inj_right hinj).1 e
   subst this
   exact (n3 r hr).2.1
  refine ⟨σ.upd none (AV.ren ρ' (.tup [])) (wrG ρ' me' dead),k,γ'',?_⟩
  refine hj1.putObj (o':=.loop { recR fn a.tmps ps assign body w.heap.size with state:=.exhausted }) (ds:=[{ target:=.collected w.heap.size,args:=#[] }]++a.defers) hl2 rfl (by omega) l1
   ⟨fun h0=>absurd (h0.symm.trans hrg) (by simp),⟨w.heap.size::rs,by rw [m1];rfl,nodup_cons.2 ⟨fun h=>by have:=hold _ h;omega,m2⟩,fun r hr=>?_⟩,hj1.defers.pin,fun l R hlR=>absurd (hyl0.symm.trans hlR) (by simp),by rw [z5r];exact hj1.defers.sz⟩
   (fun b hb e=>by obtain ⟨_,p2,_⟩:=hst.fr b hb;omega)
  rcases mem_cons.1 hr with rfl|hr
  ·exact ⟨hBw,by rw [z5r];omega,d1,(z1t (by omega)).trans hk2⟩
  ·obtain ⟨p1,p2,p3,p4⟩:=m3 r hr
   have:=hold r hr
   exact ⟨p1,by rw [z5r];exact p2,p3,(z1t (by omega)).trans p4⟩
end Go.Proofs.YtidhlpjgifoneaaGreat
