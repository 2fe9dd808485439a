/- The abstract walk, tenth part. -/
import Derived.Test.YtidhlpjgifoneaaGreatK05
set_option linter.unusedVariables false
set_option linter.unusedSimpArgs false
namespace Go.Proofs.YtidhlpjgifoneaaGreat
open Go.RowKit List
def zfg (E:Env)(f:FuncId):Prop:=∀ args w,(callFunc f args).run E.P w=.ok (.enter f args) w
def Args (w:World)(S:Nat->Prop)(args:List AV)(vs:Array Value):Prop:=vs.size=args.length/\∀ i (hi:i<args.length),Rep w S G0 args[i] (vs.getD i undef)
def BelE (E:Env)(w w':World):Prop:=Below w.heap.size w w'/\(E.dr=true->w.drawn<=w'.drawn)
def Con (E:Env)(fr:Bool)(f:FuncId)(args:List AV)(res:AV):Prop :=
 zfg E f/\∀ (S:Nat->Prop) (w:World) (vs:Array Value),Args w S args vs->Calls E.P f vs w fun e w'=>∃ v,e=.returned v/\BelE E w w'/\Rep w' (fun b=>(fr=false/\S b)\/w.heap.size<=b) G0 res v
def zrj (E:Env)(f:FuncId)(args:List AV)(ty sz:Nat)(xs:List AV):Prop :=
 zfg E f/\∀ (S:Nat->Prop) (w:World) (vs:Array Value),Args w S args vs->Calls E.P f vs w fun e w'=>∃ v us,e=.returned v/\Below w.heap.size w w'/\w'.ownsRow w.heap.size ty sz v xs.length us /\
  (∀ k (hk:k<xs.length),(xs[k]).cells.length=sz)/\(∀ k (hk:k<xs.length) j (hj:j<(xs[k]).cells.length),Rep w' (fun b=>(S b\/w.heap.size<=b)/\v.ownBlock≠some b) G0 ((xs[k]).cells[j]) (us.getD (k*sz+j) undef))/\∀ u∈us,u.oneCell'=true
mutual
def AV.flat:AV->Bool
 |.ptr _ _=>false
 |.row _=>false
 |.elt _ _ _ _=>false
 |.sl _ _=>false
 |.ref _=>false
 |.der _ _=>false
 |.cont _ _=>false
 |.mapv _=>false
 |.fn _ cap=>AV.flatL cap
 |.yld _ _ cap=>AV.flatL cap
 |.agg cs=>AV.flatL cs
 |.tup cs=>AV.flatL cs
 |_=>true
def AV.flatL:List AV->Bool
 |[]=>true
 |x::r=>x.flat && AV.flatL r
end
theorem AV.flatL_at {l:List AV}(h:AV.flatL l=true)(i:Nat)(hi:i<l.length):l[i].flat=true:=by
 induction l generalizing i with
 |nil=>simp at hi
 |cons x r ih =>
  simp only [AV.flatL,Bool.and_eq_true] at h
  cases i with
  |zero=>exact h.1
  |succ i=>exact ih h.2 i (by simpa using hi)
variable {w:World}{S S':Nat->Prop}{γ γ':Gam}{av:AV}{v:Value}
theorem Rep.flat {w':World}(h:Rep w S γ av v)(hf:av.flat=true):Rep w' S' γ' av v:=by
 induction h with
 |any=>exact .any _
 |int=>exact .int _ _
 |bool=>exact .bool _
 |str=>exact .str _
 |nilp=>exact .nilp
 |ptr h hv=>simp [AV.flat] at hf
 |elt h hv=>simp [AV.flat] at hf
 |der h hv=>simp [AV.flat] at hf
 |cont h hv hl=>simp [AV.flat] at hf
 |mapv ps0 hp g es clock hb hS hg hh hl hk hv ih1 ih2=>simp [AV.flat] at hf
 |mapn=>simp [AV.flat] at hf
 |slen A n c=>exact .slen A n c
 |nils=>exact .nils
 |sl A c cell hc hlen hb hr h1 ih=>simp [AV.flat] at hf
 |row h hv=>simp [AV.flat] at hf
 |fn vs hl hr ih=>simp only [AV.flat] at hf;exact .fn vs hl (fun i hi=>ih i hi (AV.flatL_at hf i hi))
 |yld hr ih=>simp only [AV.flat] at hf;exact .yld (fun i hi=>ih i hi (AV.flatL_at hf i hi))
 |nilf=>exact .nilf
 |agg vs hl hr h1 ih=>simp only [AV.flat] at hf;exact .agg vs hl (fun i hi=>ih i hi (AV.flatL_at hf i hi)) h1
 |tup vs hl hr ih=>simp only [AV.flat] at hf;exact .tup vs hl (fun i hi=>ih i hi (AV.flatL_at hf i hi))
 |ref b off cell hS hb hc hr h1 ih=>simp [AV.flat] at hf
section
variable {w:World} {S:Nat->Prop} {γ:Gam} {B:Nat}
theorem zts {ty sz:Nat}{xs:List AV}{d:Option (Option Nat×Value)}(h:z8s w S γ B d (.row ty sz xs))(hS:∀ b,S b->b<w.heap.size->S' b)(hb:∀ s g,d=some (some g,s)->S' g)(γ':Gam):∃ s,d=some (s.ownBlock,s)/\Rep w S' γ' (.sl sz xs) s:=by
 obtain ⟨s,vs,hd,h1,hown,hlen,hr,hone⟩:=h
 refine ⟨s,hd,?_⟩
 have hcell:∀ k j,((fun k j=>if k<xs.length/\j<sz then vs.getD (k*sz+j) undef else Value.bool true) k j).oneCell'=true:=fun k j=>by
  by_cases h:k<xs.length/\j<sz
  ·simp only [if_pos h]
   have hlt:k*sz+j<vs.length:=by
    rw [hown.1]
    have:(k+1)*sz<=xs.length*sz:=Nat.mul_le_mul_right _ h.1
    rw [Nat.succ_mul] at this
    omega
   rw [getD_eq_getElem?_getD,getElem?_eq_getElem hlt]
   exact hone _ (getElem_mem hlt)
  ·simp only [if_neg h];rfl
 have hrr:∀ k (hk:k<xs.length) j (hj:j<(xs[k]).cells.length),Rep w S' G0 ((xs[k]).cells[j]) ((fun k j=>if k<xs.length/\j<sz then vs.getD (k*sz+j) undef else Value.bool true) k j):=fun k hk j hj=>by
  simp only [if_pos (show k<xs.length/\j<sz from ⟨hk,by rw [<-hlen k hk];exact hj⟩)]
  exact (hr k hk j hj).mono (Nat.le_refl _) (fun b hS' hlt=>⟨rfl,hS b hS' hlt⟩)
 have hgc:∀ g,s.ownBlock=some g->∀ k j,k<xs.length->j<sz->w.cell? ⟨g,k*sz+j,none⟩=some ((fun k j=>if k<xs.length/\j<sz then vs.getD (k*sz+j) undef else Value.bool true) k j):=fun g hg k j hk hj=>by
  simp only [if_pos (show k<xs.length/\j<sz from ⟨hk,hj⟩)]
  refine zjc hown hg _ ?_
  have:(k+1)*sz<=xs.length*sz:=Nat.mul_le_mul_right _ hk
  rw [Nat.succ_mul] at this
  omega
 rcases hown.2 with ⟨rfl,h0⟩|⟨g,cap,cur,rfl,hbg,hh,hn,hm,hs,ht⟩
 ·have hx:xs=[]:=length_eq_zero_iff.1 h0
  subst hx
  exact .sl none 0 _ (Nat.le_refl _) hlen (fun h=>absurd h (by simp)) hrr hcell
 ·refine .sl _ cap _ hn hlen (fun _=>⟨g,0,rfl,hb _ g (by rw [hd];rfl),(Array.getElem?_eq_some_iff.1 hh).1,fun k j hk hj=>?_⟩) hrr hcell
  rw [Nat.zero_add]
  exact hgc g rfl k j hk hj
end
theorem yoj {g:Nat}{ps:List (AV×AV)}(h:ztl w S g ps)(hg:S' g)(hS:∀ b,S b->b<w.heap.size->S' b)(γ:Gam):Rep w S' γ (.mapv ps) (.map (some g)):=by
 obtain ⟨es,clock,h1,h2,hbn,h3⟩:=h
 exact .mapv ps (.inl rfl) g es clock hbn hg (Array.getElem?_eq_some_iff.1 h1).1 h1 h2 (fun j q q'=>(h3 j q q').1.mono (Nat.le_refl _) (fun b hb hl=>⟨rfl,hS b hb hl⟩)) (fun j q q'=>(h3 j q q').2.mono (Nat.le_refl _) (fun b hb hl=>⟨rfl,hS b hb hl⟩))
def zp0 (σ:AS):AV->AV
 |.row id=>match σ.find id with|some (.row _ sz xs)=>.sl sz xs|some (.mp ps)=>.mapv ps|_=>.any
 |.ptr _ _=>.any
 |.elt _ _ _ _=>.any
 |.der _ _=>.any
 |.cont _ _=>.any
 |.agg _=>.any
 |.tup _=>.any
 |.fn f cap=>match AV.closedL cap with|true=>.fn f cap|false=>.any
 |.yld l T cap=>match AV.closedL cap with|true=>.yld l T cap|false=>.any
 |x=>x
def zzm (σ:AS):AV->AV
 |.ptr id off=>match σ.find id with|some (.box _ cs)=>.ref ((cs.map (zp0 σ)).drop off)|_=>.any
 |.agg cs=>.agg (cs.map (zp0 σ))
 |.fn f cap=>.fn f (cap.map fun x=>match x with
   |.ptr id off=>match σ.find id with|some (.box _ cs)=>.ref ((cs.map (zp0 σ)).drop off)|_=>.any
   |x=>zp0 σ x)
 |x=>zp0 σ x
def ids1:AV->List Nat
 |.row id=>[id]
 |_=>[]
def ids2 (σ:AS):AV->List Nat
 |.ptr id _=>id::(match σ.find id with|some (.box _ cs)=>cs.flatMap ids1|_=>[])
 |.agg cs=>cs.flatMap ids1
 |.fn _ cap=>cap.flatMap fun x=>match x with
   |.ptr id _=>id::(match σ.find id with|some (.box _ cs)=>cs.flatMap ids1|_=>[])
   |x=>ids1 x
 |x=>ids1 x
section
variable {cx:Cx} {σ τ:AS} {γ:Gam} {a:Act} {w:World} {S':Nat->Prop}
theorem zrx (hst:StG cx γ τ a w)(hS':∀ b,Sg cx.S0 cx.w0.heap.size γ b\/own γ b->S' b)(h:Rep w (Sg cx.S0 cx.w0.heap.size γ) γ av v)(hids:∀ id∈ids1 av,τ.find id=σ.find id):Rep w S' G0 (zp0 σ av) v:=by
 have cl:av.closed=true->Rep w S' G0 av v:=fun hc=>(h.close hc).mono (Nat.le_refl _) (fun b hb _=>⟨rfl,hS' b (Or.inl hb)⟩)
 cases av with
 |row id =>
  simp only [zp0]
  have hf:=hids id (by simp [ids1])
  have hme:=hst.me id
  cases hq:σ.find id with
  |none=>exact .any _
  |some e =>
   cases e with
   |row ty sz xs =>
    rw [hf,hq] at hme
    obtain ⟨d,hd,he⟩:=hme
    obtain ⟨s,hs,hr⟩:=zts (S':=S') he (fun b hb _=>hS' b (Or.inl hb)) (fun s g hg=>hS' g (Or.inr (own.mk (id:=id) (s:=s) (by rw [hd,hg])))) G0
    subst hs
    rw [h.row_inv hd]
    exact hr
   |mp ps =>
    rw [hf,hq] at hme
    obtain ⟨d,hd,g,hde,hm⟩:=hme
    subst hde
    rw [h.row_inv hd]
    exact yoj hm (hS' g (Or.inr (own.mk hd))) (fun b hb _=>hS' b (Or.inl hb)) G0
   |_=>exact .any _
 |fn f cap =>
  simp only [zp0]
  cases hc:AV.closedL cap with
  |true=>exact cl (by simp only [AV.closed];exact hc)
  |false=>exact .any _
 |yld l T cap =>
  simp only [zp0]
  cases hc:AV.closedL cap with
  |true=>exact cl (by simp only [AV.closed];exact hc)
  |false=>exact .any _
 |ptr=>exact .any _
 |elt=>exact .any _
 |der=>exact .any _
 |cont=>exact .any _
 |agg=>exact .any _
 |tup=>exact .any _
 |_=>exact cl rfl
theorem y8q (hst:StG cx γ τ a w)(hS':∀ b,Sg cx.S0 cx.w0.heap.size γ b\/own γ b->S' b){id off:Nat}(h:Rep w (Sg cx.S0 cx.w0.heap.size γ) γ (.ptr id off) v)(hids:∀ i∈(id::(match σ.find id with|some (.box _ cs)=>cs.flatMap ids1|_=>[])),τ.find i=σ.find i) :
  Rep w S' G0 (match σ.find id with|some (.box _ cs)=>.ref ((cs.map (zp0 σ)).drop off)|_=>.any) v:=by
 have hf:=hids id (by simp)
 have hme:=hst.me id
 cases hq:σ.find id with
 |none=>exact .any _
 |some e =>
  cases e with
  |box ty cs =>
   rw [hf,hq] at hme
   obtain ⟨d,hd,g,vs,hde,hb,hsz,hr,hone⟩:=hme
   subst hde
   rw [h.ptr_inv hd]
   have:=zvu (w:=w) (S:=S') (γ:=G0) (cs:=cs.map (zp0 σ)) (b:=g) (off:=0) (k:=off) (cell:=fun j=>vs.getD j undef) (hS' g (Or.inr (own.mk hd))) hb.lt (fun j hj=>by rw [Nat.zero_add];exact zjr hb j (by simpa [hsz] using hj))
    (fun j hj=>by
      have hj':j<cs.length:=by simpa using hj
      simp only [getElem_map]
      exact zrx hst hS' (hr j hj') (fun i hi=>hids i (by simp only [hq];exact mem_cons_of_mem _ (mem_flatMap.2 ⟨_,getElem_mem hj',hi⟩))))
    (fun j hj=>hone j (by simpa [hsz] using hj))
   rw [Nat.zero_add] at this
   exact this
  |_=>exact .any _
theorem zvg (hst:StG cx γ τ a w)(hS':∀ b,Sg cx.S0 cx.w0.heap.size γ b\/own γ b->S' b)(h:Rep w (Sg cx.S0 cx.w0.heap.size γ) γ av v)(hids:∀ id∈ids2 σ av,τ.find id=σ.find id):Rep w S' G0 (zzm σ av) v:=by
 have c1:(∀ id∈ids1 av,τ.find id=σ.find id)->Rep w S' G0 (zp0 σ av) v:=zrx hst hS' h
 cases av with
 |ptr id off=>exact y8q hst hS' h hids
 |agg cs =>
  obtain ⟨vs,rfl,hl,hr,h1⟩:=h.agg_inv
  simp only [zzm]
  refine .agg vs (by simpa using hl) (fun i hi=>?_) h1
  have hi':i<cs.length:=by simpa using hi
  simp only [getElem_map]
  exact zrx hst hS' (hr i hi') (fun id hid=>hids id (mem_flatMap.2 ⟨_,getElem_mem hi',hid⟩))
 |fn f cap =>
  obtain ⟨vs,rfl,hl,hr⟩:=h.fn_inv
  simp only [zzm]
  refine .fn vs (by simpa using hl) (fun i hi=>?_)
  have hi':i<cap.length:=by simpa using hi
  simp only [getElem_map]
  have hsub:∀ id,id∈(match cap[i] with|.ptr id _=>id::(match σ.find id with|some (.box _ cs)=>cs.flatMap ids1|_=>[])|x=>ids1 x)->τ.find id=σ.find id:=fun id hid=>hids id (mem_flatMap.2 ⟨_,getElem_mem hi',hid⟩)
  have hri:=hr i hi'
  generalize cap[i]=x at *
  cases x with
  |ptr id off=>exact y8q hst hS' hri hsub
  |_=>exact zrx hst hS' hri hsub
 |_=>exact c1 hids
end
section
variable {cx:Cx} {o:Oper} {σ:AS}
def zho (σ:AS)(args:Array Operand)(cap:List AV):List AV:=args.toList.map σ.eval++cap
variable {x:Operand}{args:Array Operand}{cap:List AV}{f:FuncId}
theorem zor {τ:AS}{a:Act}(hst:StG cx γ τ a w)(hok:args.toList.all z0r=true)(hxo:z0r x=true)(h1:∀ y∈args.toList,τ.eval y=σ.eval y)(h1x:τ.eval x=σ.eval x)(hx:σ.eval x=.fn f cap) :
  ∃ caps:Array Value,a.eval x=.func (.func f) #[] caps/\(args.map a.eval++caps).size=(zho σ args cap).length/\∀ i (hi:i<(zho σ args cap).length),Rep w (Sg cx.S0 cx.w0.heap.size γ) γ (zho σ args cap)[i] ((args.map a.eval++caps).getD i undef):=by
 have hev:=hst.ev x hxo
 rw [h1x,hx] at hev
 obtain ⟨caps,hc,hl,hr⟩:=hev.fn_inv
 refine ⟨caps,hc,by simp [zho,hl],fun i hi=>?_⟩
 unfold zho at hi ⊢
 rw [Array.getD_eq_getD_getElem?]
 by_cases h:i<args.size
 ·rw [getElem_append_left (by simpa using h),Array.getElem?_append_left (by simpa using h)]
  simp only [all_eq_true] at hok
  have he:=hst.ev args[i] (hok _ (by simp))
  rw [h1 args[i] (by simp)] at he
  simpa [h] using he
 ·have hi':i-args.size<cap.length:=by simp at hi;omega
  rw [getElem_append_right (by simpa using h),Array.getElem?_append_right (by simpa using h)]
  have:=hr (i-args.size) hi'
  rw [Array.getD_eq_getD_getElem?] at this
  simpa using this
variable {tys:Array TypeId}
theorem zo8 {P:Program}{caps:Array Value}{a:Act}(ho:o.op=.call { callee:=.value x,args:=args,argTypes:=tys })(hx:a.eval x=.func (.func f) #[] caps)(he:∀ args w,(callFunc f args).run P w=.ok (.enter f args) w) :
  (execOp a.eval o).run P w=.ok (.enter f (args.map a.eval++caps)) w:=by
 simp only [execOp,ho,resolve,hx,Deferred.ofValue,invoke,Sem.run_bind,Sem.run_pure,Result.andThen_ok,Array.empty_append,he]
variable {avs:List AV}
theorem yq3 {res:AV}{fr:Bool}(ho:o.op=.call { callee:=.value x,args:=args,argTypes:=tys })(hd:dok cx o=true)(hxo:z0r x=true)(hok:args.toList.all z0r=true)(hx:σ.eval x=.fn f cap)
  (ha:zho σ args cap=avs) (hcl:AV.closedL avs=true) (hc:Con cx.E fr f avs res):z11 cx o σ res [] []:=by
 refine ⟨fun id e he=>by simp [lkE] at he,fun τ h1 h2 a w Q K ⟨γ,hst⟩ hK=>zhj (fun c hc=>by rw [ho] at hc;cases hc) ?_⟩
 have hop:o.op.operands=#[x]++args:=by simp [ho,Op.operands,Call.operands]
 obtain ⟨caps,hcx,hl,hr⟩:=zor hst hok hxo (fun y hy=>h1 y (by rw [hop];simp at hy ⊢;exact Or.inr hy)) (h1 x (by rw [hop];simp)) hx
 subst ha
 unfold Oper.wp
 rw [zo8 ho hcx hc.1]
 show Calls _ _ _ _ _
 refine (hc.2 (Sg cx.S0 cx.w0.heap.size γ) w _ ⟨hl,fun i hi=>(hr i hi).close (AV.closedL_at hcl i hi)⟩).mono ?_
 rintro e w' ⟨v,rfl,⟨hb,hdr⟩,hv⟩
 refine hK _ _ ⟨γ,hst.grow (z9f hd) hb hdr ?_⟩
 refine (hv.mono (Nat.le_refl _) (fun b hS _=>⟨rfl,?_⟩)).open_
 rcases hS with ⟨_,hS⟩|hS
 ·exact hS
 ·exact Or.inr ⟨⟨Nat.le_trans hst.below.size hS,fun h0=>by have:=hst.gh _ h0;omega⟩,fun ho'=>by have:=(hst.ge b ho').2;omega⟩
theorem y69 {res:AV}{fr:Bool}(ho:o.op=.call { callee:=.value x,args:=args,argTypes:=tys })(hd:dok cx o=true)(hxo:z0r x=true)(hok:args.toList.all z0r=true)(hx:σ.eval x=.fn f cap)
  (ha:(zho σ args cap).map (zzm σ)=avs) (hc:Con cx.E fr f avs res) (hf:fr=true\/res.flat=true):z11 cx o σ res ((zho σ args cap).flatMap (ids2 σ)) []:=by
 refine ⟨fun id e he=>by simp [lkE] at he,fun τ h1 h2 a w Q K ⟨γ,hst⟩ hK=>zhj (fun c hc=>by rw [ho] at hc;cases hc) ?_⟩
 have hop:o.op.operands=#[x]++args:=by simp [ho,Op.operands,Call.operands]
 obtain ⟨caps,hcx,hl,hr⟩:=zor hst hok hxo (fun y hy=>h1 y (by rw [hop];simp at hy ⊢;exact Or.inr hy)) (h1 x (by rw [hop];simp)) hx
 subst ha
 unfold Oper.wp
 rw [zo8 ho hcx hc.1]
 show Calls _ _ _ _ _
 refine (hc.2 (fun _=>True) w _ ⟨by simpa using hl,fun i hi=>?_⟩).mono ?_
 ·have hi':i<(zho σ args cap).length:=by simpa using hi
  simp only [getElem_map]
  exact zvg hst (fun _ _=>trivial) (hr i hi') (fun id hid=>h2 id (mem_flatMap.2 ⟨_,getElem_mem hi',hid⟩))
 rintro e w' ⟨v,rfl,⟨hb,hdr⟩,hv⟩
 refine hK _ _ ⟨γ,hst.grow (z9f hd) hb hdr ?_⟩
 rcases hf with hf|hf
 ·refine (hv.mono (Nat.le_refl _) (fun b hS _=>⟨rfl,?_⟩)).open_
  rcases hS with ⟨hS,_⟩|hS
  ·rw [hf] at hS;cases hS
  ·exact Or.inr ⟨⟨Nat.le_trans hst.below.size hS,fun h0=>by have:=hst.gh _ h0;omega⟩,fun ho'=>by have:=(hst.ge b ho').2;omega⟩
 ·exact hv.flat hf
theorem yf4 {f d:Nat}{xs:List AV}{ty sz:Nat}(ho:o.op=.call { callee:=.value x,args:=args,argTypes:=tys })(hdst:o.dst=some d)(hd:dok cx o=true)(hxo:z0r x=true)(hok:args.toList.all z0r=true)(hx:σ.eval x=.fn f cap)
  (ha:zho σ args cap=avs) (hcl:AV.closedL avs=true) (hn:σ.find d=none) (hc:zrj cx.E f avs ty sz xs) (hdr0:cx.E.dr=false):z11 cx o σ (.row d) [d] [(d,.row ty sz xs)]:=by
 refine ⟨fun id e he=>?_,fun τ h1 h2 a w Q K ⟨γ,hst⟩ hK=>zhj (fun c hc=>by rw [ho] at hc;cases hc) ?_⟩
 ·simp only [lkE] at he
  cases hb:Nat.beq d id with
  |true=>simp [Nat.eq_of_beq_eq_true hb]
  |false=>rw [hb] at he;cases he
 have hop:o.op.operands=#[x]++args:=by simp [ho,Op.operands,Call.operands]
 obtain ⟨caps,hcx,hl,hr⟩:=zor hst hok hxo (fun y hy=>h1 y (by rw [hop];simp at hy ⊢;exact Or.inr hy)) (h1 x (by rw [hop];simp)) hx
 subst ha
 have hγd:γ d=none:=by have:=hst.me d;rw [h2 d (by simp),hn] at this;exact this
 unfold Oper.wp
 rw [zo8 ho hcx hc.1]
 show Calls _ _ _ _ _
 refine (hc.2 (Sg cx.S0 cx.w0.heap.size γ) w _ ⟨hl,fun i hi=>(hr i hi).close (AV.closedL_at hcl i hi)⟩).mono ?_
 rintro e w' ⟨v,us,rfl,hb,hown,hlen,hre,hone⟩
 have hsz:=hst.below.size
 let γ':Gam:=γ.set d (some (v.ownBlock,v))
 have hvb:∀ b,v.ownBlock=some b->w.heap.size<=b/\b<w'.heap.size:=fun b hvb=>by
  rcases hown.2 with ⟨hv,_⟩|⟨g,cap,cur,hv,hbg,hh,_⟩
  ·rw [hv] at hvb;simp [Value.ownBlock] at hvb
  ·rw [hv] at hvb;simp only [Value.ownBlock,Option.some.injEq] at hvb;subst hvb
   exact ⟨hbg,(Array.getElem?_eq_some_iff.1 hh).1⟩
 have hown':∀ b,own γ' b->v.ownBlock=some b\/own γ b:=fun b ⟨id,s,hi,hm⟩=>by
  by_cases h:id=d
  ·subst h;rw [show γ' id=_ from Gam.set_self _ _ _] at hi;injection hi with hi;subst hi;exact Or.inl (zhn (zhl (zb0 hown)) hm)
  ·rw [show γ' id=_ from Gam.set_ne _ _ _ h] at hi;exact Or.inr ⟨id,s,hi,hm⟩
 have hold:∀ i x,γ i=some x->i≠d:=fun i x hx e=>by subst e;rw [hγd] at hx;cases hx
 have hstab:∀ b,Sg cx.S0 cx.w0.heap.size γ b->b<w.heap.size->Sg cx.S0 cx.w0.heap.size γ' b:=fun b hS hlt=>by
  rcases hS with hS|⟨h1,h2⟩
  ·exact Or.inl hS
  ·refine Or.inr ⟨h1,fun ho'=>?_⟩
   rcases hown' b ho' with h|h
   ·have:=(hvb b h).1;omega
   ·exact h2 h
 refine hK _ _ ⟨γ',?_⟩
 rw [hdst]
 refine hst.step (γ':=γ') (fun x hx=>by injection hx with hx;subst hx;exact z9f hd _ hdst) hb.size (fun b hS hlt=>⟨hb.block b hlt,hstab b hS hlt⟩) (fun i x hx=>Or.inl (by rw [show γ' i=_ from Gam.set_ne _ _ _ (hold i x hx)];exact hx)) (fun i hi=>?_) (fun i e' hi=>?_) (fun i j b s1 s2 h1 h2 m1 m2=>?_) (fun b hbo=>?_) (hst.below.trans (hb.mono hsz)) (.row (Gam.set_self _ _ _) (fun g s e _=>by injection e with e;injection e with e e2)) (fun b hno hlt=>⟨hb.block b hlt,fun ho'=>by
  rcases hown' b ho' with h|h
  ·have:=(hvb b h).1;omega
  ·exact hno h⟩) (fun h=>absurd (hdr0.symm.trans h) (by simp))
 ·have hid:i≠d:=fun e=>by subst e;simp [lkE] at hi
  exact ⟨Gam.set_ne _ _ _ hid,fun g' s' hg' hm'=>hb.block g' (hst.ge g' ⟨i,s',hg',hm'⟩).2⟩
 ·have hid:i=d:=by
   simp only [lkE] at hi
   cases hbq:Nat.beq d i with
   |true=>exact (Nat.eq_of_beq_eq_true hbq).symm
   |false=>rw [hbq] at hi;cases hi
  subst hid
  simp only [lkE,Nat.beq_refl,Option.some.injEq] at hi
  subst hi
  refine ⟨_,Gam.set_self _ _ _,v,us,rfl,zb0 hown,⟨hown.1,hown.2.elim Or.inl (fun ⟨g,cap,cur,hv,hg,r⟩=>Or.inr ⟨g,cap,cur,hv,Nat.le_trans hsz hg,r⟩)⟩,hlen,fun k hk j hj=>?_,hone⟩
  refine (hre k hk j hj).mono (Nat.le_refl _) (fun b hS hlt=>⟨rfl,?_⟩)
  obtain ⟨hS1,hS2⟩:=hS
  rcases hS1 with hS1|hS1
  ·rcases hS1 with hS1|⟨h1,h2⟩
   ·exact Or.inl hS1
   ·refine Or.inr ⟨h1,fun ho'=>?_⟩
    rcases hown' b ho' with h|h
    ·exact hS2 h
    ·exact h2 h
  ·refine Or.inr ⟨⟨Nat.le_trans hsz hS1,fun h0=>by have:=hst.gh _ h0;omega⟩,fun ho'=>?_⟩
   rcases hown' b ho' with h|h
   ·exact hS2 h
   ·have:=(hst.ge b h).2;omega
 ·by_cases h1':i=d
  ·by_cases h2':j=d
   ·rw [h1',h2']
   ·subst h1'
    rw [show γ' i=_ from Gam.set_self _ _ _] at h1
    rw [show γ' j=_ from Gam.set_ne _ _ _ h2'] at h2
    injection h1 with h1
    subst h1
    have:=(hst.ge b ⟨j,s2,h2,m2⟩).2
    have:=(hvb b (zhn (zhl (zb0 hown)) m1)).1
    omega
  ·by_cases h2':j=d
   ·subst h2'
    rw [show γ' j=_ from Gam.set_self _ _ _] at h2
    rw [show γ' i=_ from Gam.set_ne _ _ _ h1'] at h1
    injection h2 with h2
    subst h2
    have:=(hst.ge b ⟨i,s1,h1,m1⟩).2
    have:=(hvb b (zhn (zhl (zb0 hown)) m2)).1
    omega
   ·rw [show γ' i=_ from Gam.set_ne _ _ _ h1'] at h1
    rw [show γ' j=_ from Gam.set_ne _ _ _ h2'] at h2
    exact hst.inj i j b s1 s2 h1 h2 m1 m2
 ·rcases hown' b hbo with h|h
  ·have:=hvb b h;exact ⟨⟨Nat.le_trans hsz this.1,fun h0=>by have:=hst.gh _ h0;omega⟩,this.2⟩
  ·exact ⟨(hst.ge b h).1,Nat.lt_of_lt_of_le (hst.ge b h).2 hb.size⟩
end
open Go.RowKit
mutual
def AV.ren (ρ:Nat->Nat):AV->AV
 |.ptr id off=>.ptr (ρ id) off
 |.row id=>.row (ρ id)
 |.elt id sz k j=>.elt (ρ id) sz k j
 |.der φ id=>.der φ (ρ id)
 |.cont n id=>.cont n (ρ id)
 |.fn f cap=>.fn f (AV.renL ρ cap)
 |.yld l T cap=>.yld l T (AV.renL ρ cap)
 |.agg cs=>.agg (AV.renL ρ cs)
 |.tup cs=>.tup (AV.renL ρ cs)
 |x=>x
def AV.renL (ρ:Nat->Nat):List AV->List AV
 |[]=>[]
 |x::r=>x.ren ρ::AV.renL ρ r
end
mutual
def AV.inM (ids:List Nat):AV->Bool
 |.ptr id _=>memB id ids
 |.row id=>memB id ids
 |.elt id _ _ _=>memB id ids
 |.der _ id=>memB id ids
 |.cont _ id=>memB id ids
 |.fn _ cap=>AV.inML ids cap
 |.yld _ _ cap=>AV.inML ids cap
 |.agg cs=>AV.inML ids cs
 |.tup cs=>AV.inML ids cs
 |_=>true
def AV.inML (ids:List Nat):List AV->Bool
 |[]=>true
 |x::r=>x.inM ids && AV.inML ids r
end
theorem AV.renL_length (ρ:Nat->Nat)(l:List AV):(AV.renL ρ l).length=l.length:=by
 induction l with
 |nil=>rfl
 |cons x r ih=>simp [AV.renL,ih]
theorem AV.renL_at (ρ:Nat->Nat)(l:List AV)(i:Nat)(hi:i<l.length):(AV.renL ρ l)[i]'(by rw [AV.renL_length];exact hi)=l[i].ren ρ:=by
 induction l generalizing i with
 |nil=>simp at hi
 |cons x r ih =>
  cases i with
  |zero=>rfl
  |succ i=>exact ih i (by simpa using hi)
variable {ids:List Nat}
theorem AV.inML_at {l:List AV}(h:AV.inML ids l=true)(i:Nat)(hi:i<l.length):l[i].inM ids=true:=by
 induction l generalizing i with
 |nil=>simp at hi
 |cons x r ih =>
  simp only [AV.inML,Bool.and_eq_true] at h
  cases i with
  |zero=>exact h.1
  |succ i=>exact ih h.2 i (by simpa using hi)
variable {ρ:Nat->Nat}
theorem Rep.ren (hγ:∀ id,id∈ids->γ' id=γ (ρ id)){av':AV}(h:Rep w S γ av' v):∀ av:AV,av'=av.ren ρ->av.inM ids=true->Rep w S γ' av v:=by
 induction h with
 |any=>intro av he hi;cases av<;>simp [AV.ren] at he;exact .any _
 |int=>intro av he hi;cases av<;>simp [AV.ren] at he;obtain ⟨rfl,rfl⟩:=he;exact .int _ _
 |bool=>intro av he hi;cases av<;>simp [AV.ren] at he;subst he;exact .bool _
 |str=>intro av he hi;cases av<;>simp [AV.ren] at he;subst he;exact .str _
 |nilp=>intro av he hi;cases av<;>simp [AV.ren] at he;exact .nilp
 |nils=>intro av he hi;cases av<;>simp [AV.ren] at he;exact .nils
 |nilf=>intro av he hi;cases av<;>simp [AV.ren] at he;exact .nilf
 |ptr h hv =>
  intro av he hi
  cases av<;>simp [AV.ren] at he
  obtain ⟨rfl,rfl⟩:=he
  exact .ptr ((hγ _ ((zet _ _).1 hi)).trans h) hv
 |elt h hv =>
  intro av he hi
  cases av<;>simp [AV.ren] at he
  obtain ⟨rfl,rfl,rfl,rfl⟩:=he
  exact .elt ((hγ _ ((zet _ _).1 hi)).trans h) hv
 |row h hv =>
  intro av he hi
  cases av<;>simp [AV.ren] at he
  subst he
  exact .row ((hγ _ ((zet _ _).1 hi)).trans h) hv
 |der h hv =>
  intro av he hi
  cases av<;>simp [AV.ren] at he
  obtain ⟨rfl,rfl⟩:=he
  exact .der ((hγ _ ((zet _ _).1 hi)).trans h) hv
 |cont h hv hl =>
  intro av he hi
  cases av<;>simp [AV.ren] at he
  obtain ⟨rfl,rfl⟩:=he
  exact .cont ((hγ _ ((zet _ _).1 hi)).trans h) hv hl
 |mapv ps0 hp g es clock hb hS hg hh hl hk hv ih1 ih2=>intro av he hi;cases av<;>simp [AV.ren] at he;subst he;exact .mapv ps0 hp g es clock hb hS hg hh hl hk hv
 |mapn=>intro av he hi;cases av<;>simp [AV.ren] at he;subst he;exact .mapn
 |slen A n c=>intro av he hi;cases av<;>simp [AV.ren] at he;subst he;exact .slen A _ c
 |sl A c cell hc hlen hb hr h1 ih=>intro av he hi;cases av<;>simp [AV.ren] at he;obtain ⟨rfl,rfl⟩:=he;exact .sl A c cell hc hlen hb hr h1
 |ref b off cell hS hb hc hr h1 ih=>intro av he hi;cases av<;>simp [AV.ren] at he;subst he;exact .ref b off cell hS hb hc hr h1
 |fn vs hl hr ih =>
  intro av he hi
  cases av<;>simp [AV.ren] at he
  obtain ⟨rfl,rfl⟩:=he
  simp only [AV.inM] at hi
  exact .fn vs (by rw [hl,AV.renL_length]) (fun i hi'=>ih i (by rw [AV.renL_length];exact hi') hγ _ (AV.renL_at _ _ _ _) (AV.inML_at hi i hi'))
 |yld hr ih =>
  intro av he hi
  cases av<;>simp [AV.ren] at he
  obtain ⟨rfl,rfl,rfl⟩:=he
  simp only [AV.inM] at hi
  exact .yld (fun i hi'=>ih i (by rw [AV.renL_length];exact hi') hγ _ (AV.renL_at _ _ _ _) (AV.inML_at hi i hi'))
 |agg vs hl hr h1 ih =>
  intro av he hi
  cases av<;>simp [AV.ren] at he
  subst he
  simp only [AV.inM] at hi
  exact .agg vs (by rw [hl,AV.renL_length]) (fun i hi'=>ih i (by rw [AV.renL_length];exact hi') hγ _ (AV.renL_at _ _ _ _) (AV.inML_at hi i hi')) h1
 |tup vs hl hr ih =>
  intro av he hi
  cases av<;>simp [AV.ren] at he
  subst he
  simp only [AV.inM] at hi
  exact .tup vs (by rw [hl,AV.renL_length]) (fun i hi'=>ih i (by rw [AV.renL_length];exact hi') hγ _ (AV.renL_at _ _ _ _) (AV.inML_at hi i hi'))
def rho:List (Nat×Nat)->Nat->Nat
 |[],i=>i
 |(a,b)::r,i=>match Nat.beq a i with|true=>b|false=>rho r i
def Ent.renI (ρ:Nat->Nat):Ent->Ent
 |.box ty cs=>.box ty (AV.renL ρ cs)
 |e=>e
def Ent.inM (ids:List Nat):Ent->Bool
 |.box _ cs=>AV.inML ids cs
 |_=>true
def LeV (σ:AS)(ρ:Nat->Nat)(ids:List Nat):List (Nat×AV)->Prop
 |[]=>True
 |(t,av)::r=>(σ.get t=av.ren ρ/\av.inM ids=true)/\LeV σ ρ ids r
def LeE (σ:AS)(ρ:Nat->Nat)(ids:List Nat):List (Nat×Ent)->Prop
 |[]=>True
 |(i,e)::r=>(σ.find (ρ i)=some (e.renI ρ)/\e.inM ids=true)/\LeE σ ρ ids r
def injB (ρ:Nat->Nat)(ids:List Nat):Bool:=ids.all fun i=>ids.all fun j=>!(Nat.beq (ρ i) (ρ j)) || Nat.beq i j
variable {σ:AS}
theorem LeV.get {l:List (Nat×AV)}(h:LeV σ ρ ids l)(t:Nat):lkV l t=.any\/(σ.get t=(lkV l t).ren ρ/\(lkV l t).inM ids=true):=by
 induction l with
 |nil=>exact Or.inl rfl
 |cons x r ih =>
  obtain ⟨u,av⟩:=x
  simp only [LeV] at h
  simp only [lkV]
  cases hb:Nat.beq u t with
  |true=>have:=Nat.eq_of_beq_eq_true hb;subst this;exact Or.inr h.1
  |false=>exact ih h.2
variable {l:List (Nat×Ent)}
theorem LeE.get (h:LeE σ ρ ids l)(i:Nat):lkE l i=none\/∃ e,lkE l i=some e/\σ.find (ρ i)=some (e.renI ρ)/\e.inM ids=true:=by
 induction l with
 |nil=>exact Or.inl rfl
 |cons x r ih =>
  obtain ⟨u,e⟩:=x
  simp only [LeE] at h
  simp only [lkE]
  cases hb:Nat.beq u i with
  |true=>have:=Nat.eq_of_beq_eq_true hb;subst this;exact Or.inr ⟨e,rfl,h.1⟩
  |false=>exact ih h.2
theorem zoc {i:Nat}:lkE l i≠none ↔ i∈l.map (·.1):=by
 constructor
 ·exact y3j
 ·intro h
  induction l with
  |nil=>simp at h
  |cons x r ih =>
   obtain ⟨u,e⟩:=x
   simp only [lkE]
   cases hb:Nat.beq u i with
   |true=>simp
   |false =>
    simp only [map_cons,mem_cons] at h
    rcases h with h|h
    ·subst h;simp at hb
    ·exact ih h
variable {d:Option (Option Nat×Value)}{ty:TypeId}
theorem z8s.nest_mono {B:Nat}{es:List NE}(h:z8s w S γ B d (.nest ty es))(hS:∀ b,S b->S' b):z8s w S' γ' B d (.nest ty es):=by
 obtain ⟨s,vs,hd,h1,hsz,hu,hn,hnd⟩:=h
 exact ⟨s,vs,hd,h1,hsz,hu,fun k hk=>(hn k hk).moved (Nat.le_refl _) (fun b hb _=>⟨rfl,hS b hb⟩) (fun _ _=>rfl),hnd⟩
theorem z8s.mpn_mono {B:Nat}{ps:List (AV×NE)}(h:z8s w S γ B d (.mpn ps))(hS:∀ b,S b->S' b):z8s w S' γ' B d (.mpn ps):=by
 obtain ⟨g,es,vs,hd,hh,hl,hsz,hbn,hkk,hvv,hn,hnd⟩:=h
 exact ⟨g,es,vs,hd,hh,hl,hsz,hbn,fun j h h'=>(hkk j h h').mono (Nat.le_refl _) (fun b hb _=>⟨rfl,hS b hb⟩),hvv,fun k hk=>(hn k hk).moved (Nat.le_refl _) (fun b hb _=>⟨rfl,hS b hb⟩) (fun _ _=>rfl),hnd⟩
theorem Le.of {cx:Cx}{τ:AS}(ps:List (Nat×Nat))(hinj:injB (rho ps) (τ.me.map (·.1))=true)(h1:LeV σ (rho ps) (τ.me.map (·.1)) τ.tm)(h2:LeE σ (rho ps) (τ.me.map (·.1)) τ.me):Le cx σ τ:=fun a w ⟨γ,h⟩=>by
 generalize hids:τ.me.map (·.1)=ids at *
 generalize rho ps=ρ at *
 have hmem:∀ i,lkE τ.me i≠none ↔ i∈ids:=fun i=>by rw [zoc,hids]
 let γ':Gam:=fun i=>if i∈ids then γ (ρ i) else none
 have hγ':∀ i,i∈ids->γ' i=γ (ρ i):=fun i hi=>if_pos hi
 have hown:∀ b,own γ' b->own γ b:=fun b ⟨i,s,hi,hb⟩=>by
  by_cases hm:i∈ids
  ·rw [hγ' i hm] at hi;exact ⟨_,s,hi,hb⟩
  ·rw [show γ' i=none from if_neg hm] at hi;cases hi
 have hS:∀ b,Sg cx.S0 cx.w0.heap.size γ b->Sg cx.S0 cx.w0.heap.size γ' b:=fun b hb=>hb.elim Or.inl (fun ⟨h1,h2⟩=>Or.inr ⟨h1,fun ho=>h2 (hown b ho)⟩)
 have hmv:∀ {g:Gam} {av v},Rep w (Sg cx.S0 cx.w0.heap.size γ) g av v->Rep w (Sg cx.S0 cx.w0.heap.size γ') g av v:=fun h=>h.mono (Nat.le_refl _) (fun b hb _=>⟨rfl,hS b hb⟩)
 refine ⟨γ',fun t=>?_,fun i=>?_,fun i j b s s' hi hj mi mj=>?_,fun b hb=>h.ge b (hown b hb),h.below,h.size,h.defers.gam hown,h.gh,fun b hb=>by obtain ⟨f2,f3,f4⟩:=h.fr b hb;exact ⟨fun ho=>f2 (hown b ho),f3,f4⟩,h.dr⟩
 ·rcases h1.get t with ha|⟨ha,hm⟩
  ·unfold AS.get;rw [ha];exact .any _
  ·have:=h.tm t
   rw [ha] at this
   exact hmv (this.ren hγ' _ rfl hm)
 ·rcases h2.get i with ha|⟨e,ha,hf,hm⟩
  ·unfold AS.find
   rw [ha]
   have:i ∉ ids:=fun hi=>(hmem i).2 hi ha
   exact if_neg this
  ·unfold AS.find
   rw [ha]
   have hi:i∈ids:=(hmem i).1 (by rw [ha];simp)
   rw [hγ' i hi]
   have:=h.me (ρ i)
   rw [hf] at this
   obtain ⟨x,hx,he⟩:=this
   refine ⟨x,hx,?_⟩
   cases e with
   |box ty cs =>
    obtain ⟨g,vs,hd,hb,hsz,hr,hone⟩:=he
    simp only [Ent.inM] at hm
    refine ⟨g,vs,hd,hb,by rw [hsz,AV.renL_length],fun k hk=>hmv ((hr k (by rw [AV.renL_length];exact hk)).ren hγ' _ (AV.renL_at _ _ _ _) (AV.inML_at hm k hk)),hone⟩
   |row ty sz xs =>
    obtain ⟨s,vs,hd,h1,hown,hlen,hr,hone⟩:=he
    exact ⟨s,vs,hd,h1,hown,hlen,fun k hk j hj=>hmv (hr k hk j hj),hone⟩
   |mp ps =>
    obtain ⟨g,hd,hm⟩:=he
    exact ⟨g,hd,hm.move (Nat.le_refl _) (fun b hb _=>⟨rfl,hS b hb⟩) rfl⟩
   |nest ty es=>exact z8s.nest_mono he hS
   |mpn ps=>exact z8s.mpn_mono he hS
   |are ty idx os=>exact he.gmono (fun _ _ h=>by cases h) hS
   |it ps=>exact he.gmono (fun _ _ h=>by cases h) hS
   |itp ps=>exact he.gmono (fun _ _ h=>by cases h) hS
   |itc p ps=>exact he.gmono (fun _ _ h=>by cases h) hS
   |dead=>exact he
 ·by_cases h1:i∈ids
  ·by_cases h2:j∈ids
   ·rw [hγ' i h1] at hi
    rw [hγ' j h2] at hj
    have e:=h.inj _ _ _ _ _ hi hj mi mj
    simp only [injB,all_eq_true,Bool.or_eq_true,Bool.not_eq_true'] at hinj
    rcases hinj i h1 j h2 with h3|h3
    ·rw [e] at h3;simp at h3
    ·exact Nat.eq_of_beq_eq_true h3
   ·rw [show γ' j=none from if_neg h2] at hj;cases hj
  ·rw [show γ' i=none from if_neg h1] at hi;cases hi
def y2r (σ:AS):AV->AV
 |.tup cs=>.tup (cs.map (zzm σ))
 |x=>zzm σ x
def retA (tab:List (Nat×TyI))(σ:AS):List ResultVar->Option (List AV)
 |[]=>some []
 |.tmp t::r=>(retA tab σ r).map (σ.get t::·)
 |.cell t T::r=>match σ.get t,lkT tab T with
  |.ptr id off,some i=>match σ.find id with
   |some (.box _ cs)=>match i.shape.agg with
    |true=>match Nat.ble (off+i.sz) cs.length with
     |true=>(retA tab σ r).map (.agg ((cs.drop off).take i.sz)::·)
     |false=>none
    |false=>match cs[off]? with
     |some av=>(retA tab σ r).map (av::·)
     |none=>none
   |_=>none
  |_,_=>none
def y6c:List AV->AV
 |[x]=>x
 |xs=>.tup xs
section
variable {cx:Cx} {γ:Gam} {σ:AS} {a:Act} {w:World}
theorem y7k {id off T:Nat}{i:TyI}{cs:List AV}(hst:StG cx γ σ a w)(hv:Rep w (Sg cx.S0 cx.w0.heap.size γ) γ (.ptr id off) v)(hT:lkT cx.E.tab T=some i)(ha:i.shape.agg=true)(hl:σ.find id=some (.box ty cs))(hn:off+i.sz<=cs.length) :
  ∃ u,((do loadVar T (<-asAddr v)):Sem Value).run cx.P w=.ok u w/\Rep w (Sg cx.S0 cx.w0.heap.size γ) γ (.agg ((cs.drop off).take i.sz)) u:=by
 have hme:=hst.me id
 rw [hl] at hme
 obtain ⟨d,hd',g,vs,hde,hb,hsz,hr,hone⟩:=hme
 subst hde
 have e:=hv.ptr_inv hd'
 subst e
 have hlen:((range i.sz).map fun j=>vs.getD (off+j) undef).length=i.sz:=by simp
 have hrun:=zg6 (cx.E.ok T i hT) ha w ⟨g,off,none⟩ ((range i.sz).map fun j=>vs.getD (off+j) undef) hlen (fun j v hj=>by
  obtain ⟨hj1,hj2⟩:=List.getElem?_eq_some_iff.1 hj
  rw [hlen] at hj1
  simp only [getElem_map,getElem_range] at hj2
  rw [Addr.add_lit,zjr hb _ (by omega),hj2])
 refine ⟨.agg ((range i.sz).map fun j=>vs.getD (off+j) undef).toArray,by simp only [asAddr,Sem.run_bind,Sem.run_pure,Result.andThen_ok,hrun],.agg _ (by simp;omega) (fun j hj=>?_) (fun j hj=>?_)⟩
 ·rw [length_take,length_drop] at hj
  simp only [getElem_take,getElem_drop]
  have:((range i.sz).map fun j=>vs.getD (off+j) undef).toArray.getD j undef=vs.getD (off+j) undef:=by
   have hj':j<i.sz:=by omega
   simp [hj']
  rw [this]
  exact hr (off+j) (by omega)
 ·have hj':j<i.sz:=by simpa using hj
  have:((range i.sz).map fun j=>vs.getD (off+j) undef).toArray.getD j undef=vs.getD (off+j) undef:=by simp [hj']
  rw [this]
  exact hone _ (by omega)
theorem y7j {id off T:Nat}{i:TyI}{cs:List AV}(hst:StG cx γ σ a w)(hv:Rep w (Sg cx.S0 cx.w0.heap.size γ) γ (.ptr id off) v)(hT:lkT cx.E.tab T=some i)(ha:i.shape.agg=false)(hl:σ.find id=some (.box ty cs))(hc:cs[off]? = some av) :
  ∃ u,((do loadVar T (<-asAddr v)):Sem Value).run cx.P w=.ok u w/\Rep w (Sg cx.S0 cx.w0.heap.size γ) γ av u:=by
 have hme:=hst.me id
 rw [hl] at hme
 obtain ⟨d,hd',g,vs,hde,hb,hsz,hr,hone⟩:=hme
 subst hde
 have e:=hv.ptr_inv hd'
 subst e
 obtain ⟨hlt,hc'⟩:=List.getElem?_eq_some_iff.1 hc
 have hrun:=zez (cx.E.ok T i hT) ha w ⟨g,off,none⟩ (vs.getD off undef) (zjr hb off (by omega))
 refine ⟨vs.getD off undef,by simp only [asAddr,Sem.run_bind,Sem.run_pure,Result.andThen_ok,hrun],?_⟩
 have:=hr off hlt
 rwa [hc'] at this
def zvt (tmps:Array Value):ResultVar->Sem Value
 |.tmp t=>pure (tmps.getD t undef)
 |.cell a t=>do loadVar t (<-asAddr (tmps.getD a undef))
theorem zxx (hst:StG cx γ σ a w):∀ (l:List ResultVar) (avs:List AV),retA cx.E.tab σ l=some avs ->
  ∃ vs:List Value,(l.mapM (zvt a.tmps)).run cx.P w=.ok vs w/\vs.length=avs.length/\∀ i (hi:i<avs.length),Rep w (Sg cx.S0 cx.w0.heap.size γ) γ avs[i] (vs.getD i undef)
 |[],avs,h=>by
  simp only [retA,Option.some.injEq] at h
  subst h
  exact ⟨[],by simp [pure],rfl,fun i hi=>by simp at hi⟩
 |x::r,avs,h=>by
  have key:∀ (av:AV) (rest:List AV),retA cx.E.tab σ r=some rest->avs=av::rest->(∃ u,(zvt a.tmps x).run cx.P w=.ok u w/\Rep w (Sg cx.S0 cx.w0.heap.size γ) γ av u) ->
    ∃ vs:List Value,((x::r).mapM (zvt a.tmps)).run cx.P w=.ok vs w/\vs.length=avs.length/\∀ i (hi:i<avs.length),Rep w (Sg cx.S0 cx.w0.heap.size γ) γ avs[i] (vs.getD i undef):=by
   rintro av rest hrest rfl ⟨u,hu,hru⟩
   obtain ⟨vs,h1,h2,h3⟩:=zxx hst r rest hrest
   refine ⟨u::vs,?_,by simp [h2],fun i hi=>?_⟩
   ·rw [mapM_cons]
    simp only [Sem.run_bind,hu,Result.andThen_ok,h1,Sem.run_pure]
   ·cases i with
    |zero=>exact hru
    |succ i=>have:=h3 i (by simpa using hi);simpa using this
  cases x with
  |tmp t =>
   simp only [retA,Option.map_eq_some_iff] at h
   obtain ⟨rest,hrest,he⟩:=h
   exact key _ rest hrest he.symm ⟨_,by simp [zvt,pure],hst.tm t⟩
  |cell t T =>
   simp only [retA] at h
   split at h
   ·rename_i id off i hget hT
    split at h
    ·rename_i ty cs hf
     split at h
     ·rename_i hagg
      split at h
      ·rename_i hle
       simp only [Option.map_eq_some_iff] at h
       obtain ⟨rest,hrest,he⟩:=h
       have hv:=hst.tm t
       rw [hget] at hv
       exact key _ rest hrest he.symm (y7k hst hv hT hagg hf (Nat.le_of_ble_eq_true hle))
      ·cases h
     ·rename_i hagg
      split at h
      ·rename_i av hav
       simp only [Option.map_eq_some_iff] at h
       obtain ⟨rest,hrest,he⟩:=h
       have hv:=hst.tm t
       rw [hget] at hv
       exact key _ rest hrest he.symm (y7j hst hv hT hagg hf hav)
      ·cases h
    ·cases h
   ·cases h
theorem yer (fn:Func)(tmps:Array Value):results fn tmps=(fn.results.mapM (zvt tmps) >>= fun vs=>pure (if h:vs.size=1 then vs[0] else .tuple vs)):=by
 unfold results
 have e:(fun x:ResultVar=>match x with
  |.tmp t=>(pure (tmps.getD t undef):Sem Value)
  |.cell a t=>(do loadVar t (<-asAddr (tmps.getD a undef)):Sem Value))=zvt tmps:=by funext x;cases x<;>rfl
 rw [<-e]
 rfl
theorem zjd (hst:StG cx γ σ a w){fn:Func}{avs:List AV}(h:retA cx.E.tab σ fn.results.toList=some avs):∃ v,(results fn a.tmps).run cx.P w=.ok v w/\Rep w (Sg cx.S0 cx.w0.heap.size γ) γ (y6c avs) v:=by
 obtain ⟨vs,h1,h2,h3⟩:=zxx hst fn.results.toList avs h
 have hm:(fn.results.mapM (zvt a.tmps)).run cx.P w=.ok vs.toArray w:=by
  rw [Array.mapM_eq_mapM_toList]
  show Sem.run cx.P (mapM (zvt a.tmps) fn.results.toList >>= fun l=>pure l.toArray) w=_
  simp only [Sem.run_bind,h1,Result.andThen_ok,Sem.run_pure]
 have hrun:(results fn a.tmps).run cx.P w=.ok (if h:vs.toArray.size=1 then vs.toArray[0] else .tuple vs.toArray) w:=by
  rw [yer]
  simp only [Sem.run_bind,hm,Result.andThen_ok,Sem.run_pure]
 refine ⟨_,hrun,?_⟩
 cases avs with
 |nil =>
  have:vs=[]:=length_eq_zero_iff.1 h2
  subst this
  exact .tup #[] rfl (fun i hi=>by simp at hi)
 |cons x r =>
  cases r with
  |nil =>
   obtain ⟨u,rfl⟩:∃ u,vs=[u]:=by
    cases vs with
    |nil=>simp at h2
    |cons u t=>cases t with
     |nil=>exact ⟨u,rfl⟩
     |cons _ _=>simp at h2
   exact h3 0 (by simp)
  |cons y r =>
   have hne:¬vs.toArray.size=1:=by simp [h2]
   rw [dif_neg hne]
   refine .tup vs.toArray (by simpa using h2) (fun i hi=>?_)
   have:=h3 i hi
   simpa using this
end
mutual
def fAV {α:Type}:AV->(AV->α)->α
 |.any,k=>k .any
 |.int kd n,k=>k (.int kd n)
 |.bool b,k=>k (.bool b)
 |.str s,k=>k (.str s)
 |.nilp,k=>k .nilp
 |.ptr id off,k=>k (.ptr id off)
 |.nils,k=>k .nils
 |.sl sz xs,k=>k (.sl sz xs)
 |.row id,k=>k (.row id)
 |.elt id sz m j,k=>k (.elt id sz m j)
 |.fn f cap,k=>fL cap fun l=>k (.fn f l)
 |.yld r T cap,k=>fL cap fun l=>k (.yld r T l)
 |.nilf,k=>k .nilf
 |.agg cs,k=>fL cs fun l=>k (.agg l)
 |.tup cs,k=>fL cs fun l=>k (.tup l)
 |.ref cs,k=>k (.ref cs)
 |.der φ id,k=>k (.der φ id)
 |.cont n id,k=>k (.cont n id)
 |.mapv ps,k=>k (.mapv ps)
 |.slen n,k=>k (.slen n)
def fL {α:Type}:List AV->(List AV->α)->α
 |[],k=>k []
 |x::r,k=>fAV x fun x'=>fL r fun r'=>k (x'::r')
end
mutual
theorem zz0 {α:Type}:∀ (v:AV) (k:AV->α),fAV v k=k v
 |.any,k=>rfl
 |.int kd n,k=>rfl
 |.bool b,k=>rfl
 |.str s,k=>rfl
 |.nilp,k=>rfl
 |.ptr id off,k=>rfl
 |.nils,k=>rfl
 |.sl sz xs,k=>rfl
 |.row id,k=>rfl
 |.elt id sz m j,k=>rfl
 |.fn f cap,k=>by rw [fAV,yb0]
 |.yld r T cap,k=>by rw [fAV,yb0]
 |.nilf,k=>rfl
 |.agg cs,k=>by rw [fAV,yb0]
 |.tup cs,k=>by rw [fAV,yb0]
 |.ref cs,k=>rfl
 |.der φ id,k=>rfl
 |.cont n id,k=>rfl
 |.mapv ps,k=>rfl
 |.slen n,k=>rfl
theorem yb0 {α:Type}:∀ (l:List AV) (k:List AV->α),fL l k=k l
 |[],k=>rfl
 |x::r,k=>by rw [fL,zz0,yb0]
end
mutual
inductive Sub:AV->AV->Prop
 |refl (v:AV):Sub v v
 |nil (sz:Nat):Sub .nils (.sl sz [])
 |any (v:AV):Sub v .any
 |agg {cs ds:List AV} (h:SubL cs ds):Sub (.agg cs) (.agg ds)
 |tup {cs ds:List AV} (h:SubL cs ds):Sub (.tup cs) (.tup ds)
 |fn {f:FuncId} {cs ds:List AV} (h:SubL cs ds):Sub (.fn f cs) (.fn f ds)
 |yld {l:Nat} {T:Array Value} {cs ds:List AV} (h:SubL cs ds):Sub (.yld l T cs) (.yld l T ds)
 |sl (sz:Nat) {xs ys:List AV} (h:SubE xs ys):Sub (.sl sz xs) (.sl sz ys)
inductive SubL:List AV->List AV->Prop
 |nil:SubL [] []
 |cons {x y:AV} {r s:List AV} (h:Sub x y) (hr:SubL r s):SubL (x::r) (y::s)
inductive SubE:List AV->List AV->Prop
 |nil:SubE [] []
 |cons {x y:AV} {r s:List AV} (h:SubL x.cells y.cells) (hr:SubE r s):SubE (x::r) (y::s)
end
variable {cs ds:List AV}
theorem SubE.len (h:SubE cs ds):cs.length=ds.length:=by
 induction cs generalizing ds with
 |nil=>cases h;rfl
 |cons x r ih=>cases h with
  |cons hx hr=>simp [ih hr]
theorem SubE.at (h:SubE cs ds)(i:Nat)(hi:i<cs.length)(hi':i<ds.length):SubL cs[i].cells ds[i].cells:=by
 induction cs generalizing ds i with
 |nil=>simp at hi
 |cons x r ih=>cases h with
  |cons hx hr=>cases i with
   |zero=>exact hx
   |succ i=>exact ih hr i (by simpa using hi) (by simpa using hi')
theorem SubL.len (h:SubL cs ds):cs.length=ds.length:=by
 induction cs generalizing ds with
 |nil=>cases h;rfl
 |cons x r ih=>cases h with
  |cons hx hr=>simp [ih hr]
theorem SubL.at (h:SubL cs ds)(i:Nat)(hi:i<cs.length)(hi':i<ds.length):Sub cs[i] ds[i]:=by
 induction cs generalizing ds i with
 |nil=>simp at hi
 |cons x r ih=>cases h with
  |cons hx hr=>cases i with
   |zero=>exact hx
   |succ i=>exact ih hr i (by simpa using hi) (by simpa using hi')
theorem Rep.sub (h:Rep w S γ av v):∀ {bv:AV},Sub av bv->Rep w S γ bv v:=by
 induction h with
 |any v=>intro bv hs;cases hs<;>exact .any _
 |int k n=>intro bv hs;cases hs<;>first|exact .int _ _|exact .any _
 |bool b=>intro bv hs;cases hs<;>first|exact .bool _|exact .any _
 |str s=>intro bv hs;cases hs<;>first|exact .str _|exact .any _
 |nilp=>intro bv hs;cases hs<;>first|exact .nilp|exact .any _
 |nilf=>intro bv hs;cases hs<;>first|exact .nilf|exact .any _
 |ptr h hv=>intro bv hs;cases hs<;>first|exact .ptr h hv|exact .any _
 |elt h hv=>intro bv hs;cases hs<;>first|exact .elt h hv|exact .any _
 |row h hv=>intro bv hs;cases hs<;>first|exact .row h hv|exact .any _
 |der h hv=>intro bv hs;cases hs<;>first|exact .der h hv|exact .any _
 |cont h hv hl=>intro bv hs;cases hs<;>first|exact .cont h hv hl|exact .any _
 |mapv ps0 hp g es clock hb hS hg hh hl hk hv ih1 ih2=>intro bv hs;cases hs<;>first|exact .mapv ps0 hp g es clock hb hS hg hh hl hk hv|exact .any _
 |mapn=>intro bv hs;cases hs<;>first|exact .mapn|exact .any _
 |slen A n c=>intro bv hs;cases hs<;>first|exact .slen A _ c|exact .any _
 |nils =>
  intro bv hs
  cases hs with
  |refl=>exact .nils
  |any=>exact .any _
  |nil sz=>exact .sl (xs:=[]) none 0 (fun _ _=>.bool true) (Nat.le_refl _) (fun k hk=>absurd hk (by simp)) (fun h=>absurd h (by simp)) (fun k hk=>absurd hk (by simp)) (fun _ _=>rfl)
 |sl A c cell hc hlen hb hr h1 ih =>
  intro bv hs
  cases hs with
  |refl=>exact .sl A c cell hc hlen hb hr h1
  |any=>exact .any _
  |sl sz h =>
   have hl:=h.len
   rw [hl] at hc ⊢
   refine .sl A c cell hc (fun k hk=>?_) (fun h0=>?_) (fun k hk j hj=>?_) h1
   ·rw [<-(h.at k (by omega) hk).len];exact hlen k (by omega)
   ·obtain ⟨b,off,q1,q2,q3,q4⟩:=hb (by omega)
    exact ⟨b,off,q1,q2,q3,fun k j hk hj=>q4 k j (by omega) hj⟩
   ·have hk':=hk
    rw [<-hl] at hk'
    have hs:=h.at k hk' hk
    have hj':=hj
    rw [<-hs.len] at hj'
    exact ih k hk' j hj' (hs.at j hj' hj)
 |ref b off cell hS hb hc hr h1 ih=>intro bv hs;cases hs<;>first|exact .ref b off cell hS hb hc hr h1|exact .any _
 |fn vs hl hr ih =>
  intro bv hs
  cases hs with
  |refl=>exact .fn vs hl hr
  |any=>exact .any _
  |fn h=>exact .fn vs (by rw [hl,h.len]) (fun i hi=>ih i (by rw [h.len];exact hi) (h.at i _ hi))
 |yld hr ih =>
  intro bv hs
  cases hs with
  |refl=>exact .yld hr
  |any=>exact .any _
  |yld h=>exact .yld (fun i hi=>ih i (by rw [h.len];exact hi) (h.at i _ hi))
 |agg vs hl hr h1 ih =>
  intro bv hs
  cases hs with
  |refl=>exact .agg vs hl hr h1
  |any=>exact .any _
  |agg h=>exact .agg vs (by rw [hl,h.len]) (fun i hi=>ih i (by rw [h.len];exact hi) (h.at i _ hi)) h1
 |tup vs hl hr ih =>
  intro bv hs
  cases hs with
  |refl=>exact .tup vs hl hr
  |any=>exact .any _
  |tup h=>exact .tup vs (by rw [hl,h.len]) (fun i hi=>ih i (by rw [h.len];exact hi) (h.at i _ hi))
variable {E:Env}{f:FuncId}{res:AV}
theorem Con.sub {fr:Bool}{avs bvs:List AV}(h:SubL avs bvs)(hc:Con E fr f bvs res):Con E fr f avs res :=
 ⟨hc.1,fun S w vs ⟨hl,hr⟩=>hc.2 S w vs ⟨by rw [hl,h.len],fun i hi=>(hr i (by rw [h.len];exact hi)).sub (h.at i _ hi)⟩⟩
variable {sz:Nat}{xs:List AV}
theorem zrj.sub {avs bvs:List AV}{ty:Nat}(h:SubL avs bvs)(hc:zrj E f bvs ty sz xs):zrj E f avs ty sz xs :=
 ⟨hc.1,fun S w vs ⟨hl,hr⟩=>hc.2 S w vs ⟨by rw [hl,h.len],fun i hi=>(hr i (by rw [h.len];exact hi)).sub (h.at i _ hi)⟩⟩
inductive RetX (v res:AV):Prop
 |sub (h:Sub v res)
theorem RetX.mk {v:AV}(h:v=res):RetX v res:=.sub (h▸.refl v)
inductive RowX (ty sz:Nat) (xs:List AV) (ty' sz':Nat) (xs':List AV):Prop
 |mk (h1:ty=ty') (h2:sz=sz') (h3:xs=xs')
def endA (E:Env)(fn:Func)(res:AV)(σ:AS):Prop:=match retA E.tab σ fn.results.toList with
 |some avs=>fAV (y2r σ (y6c avs)) fun v=>RetX v res
 |none=>False
def EndA (E:Env)(fn:Func)(res:AV):Exit->AS->Prop
 |.normal,σ=>endA E fn res σ
 |.ret,σ=>endA E fn res σ
 |_,_=>False
variable {fn:Func}
theorem zuf (h:endA E fn res σ):∃ avs,retA E.tab σ fn.results.toList=some avs/\Sub (y2r σ (y6c avs)) res:=by
 unfold endA at h
 split at h
 ·rename_i avs he
  rw [zz0] at h
  cases h with
  |sub h=>exact ⟨avs,he,h⟩
 ·exact h.elim
def zwg (args:List AV):AS:=⟨args.zipIdx.map fun p=>(p.2,p.1),[]⟩
theorem y3i:∀ (l:List AV) (n t:Nat),lkV ((l.zipIdx n).map fun p=>(p.2,p.1)) t=if h:n<=t/\t<n+l.length then l[t-n]'(by omega) else .any
 |[],n,t=>by simp [lkV];intro h;omega
 |x::r,n,t=>by
  simp only [zipIdx_cons,map_cons,lkV]
  cases hb:Nat.beq n t with
  |true=>have:=Nat.eq_of_beq_eq_true hb;subst this;simp
  |false =>
   have hne:n≠t:=fun e=>by subst e;simp at hb
   simp only
   rw [y3i r (n+1) t]
   by_cases h:n+1<=t/\t<n+1+r.length
   ·rw [dif_pos h,dif_pos (by simp;omega)]
    have:t-n=(t-(n+1))+1:=by omega
    simp only [this,getElem_cons_succ]
   ·rw [dif_neg h,dif_neg (by simp;omega)]
variable {args:List AV}
theorem zww {vs:Array Value}{nt:Nat}(hyl:E.yl=none)(hnp:E.np=0)(h:Args w S args vs)(hn:args.length<=nt):St (Cx.call E S w nt) (zwg args) { tmps:=vs++Array.replicate (nt-vs.size) undef,defers:=[] } w:=by
 obtain ⟨hl,hr⟩:=h
 refine ⟨G0,fun t=>?_,fun i=>rfl,fun i j b s s' h=>(by cases h),fun b ⟨i,s,h,_⟩=>(by cases h),Below.refl _ _,by simp [Cx.call];omega,⟨fun _=>rfl,⟨[],rfl,.nil,fun r hr=>by cases hr⟩,fun t ht=>by rw [show (Cx.call E S w nt).E.np=0 from hnp] at ht;omega,fun l R hl=>absurd (hyl.symm.trans hl) (by simp),Nat.le_refl _⟩,fun b hb=>hb.2,fun b hb=>hb.elim,fun _=>Nat.le_refl _⟩
 unfold AS.get zwg
 rw [y3i]
 by_cases h:0<=t/\t<0+args.length
 ·rw [dif_pos h]
  have ht:t<vs.size:=by omega
  have e:(vs++Array.replicate (nt-vs.size) undef).getD t undef=vs.getD t undef:=by
   rw [Array.getD_eq_getD_getElem?,Array.getD_eq_getD_getElem?,Array.getElem?_append_left ht]
  show Rep w _ G0 _ ((vs++Array.replicate (nt-vs.size) undef).getD t undef)
  rw [e]
  refine (hr t (by omega)).mono (Nat.le_refl _) (fun b hS hlt=>⟨rfl,Or.inl ⟨⟨hS,hlt⟩,hlt⟩⟩)
 ·rw [dif_neg h];exact .any _
theorem y2q {cx:Cx}{a:Act}(hst:StG cx γ σ a w)(hS':∀ b,Sg cx.S0 cx.w0.heap.size γ b\/own γ b->S' b)(h:Rep w (Sg cx.S0 cx.w0.heap.size γ) γ av v):Rep w S' G0 (y2r σ av) v:=by
 cases av with
 |tup cs =>
  obtain ⟨vs,rfl,hl,hr⟩:=h.tup_inv
  simp only [y2r]
  refine .tup vs (by simpa using hl) (fun i hi=>?_)
  have hi':i<cs.length:=by simpa using hi
  simp only [getElem_map]
  exact zvg hst hS' (hr i hi') (fun _ _=>rfl)
 |_=>exact zvg hst hS' h (fun _ _=>rfl)
theorem Con.of {fr:Bool}{c:Code}(hf:E.P.funcs[f]? = some fn)(hb:fn.body=some c)(he:zfg E f)(hn:args.length<=fn.ntmps)(hfr:fr=false\/res.flat=true)
  (h:∀ S w,WP (Cx.call E S w fn.ntmps) c (EndA E fn res) (zwg args)) (hrg:E.rg=false) (hyl:E.yl=none) (hnp:E.np=0):Con E fr f args res:=by
 refine ⟨he,fun S w vs ha=>callsIn_wide.1 (callsIn_of_wp (F:=Fence.wide) (n:=0) hf hb trivial ?_)⟩
 refine wpIn_mono (h S w _ _ (zww hyl hnp ha hn)) (fun e a w' ⟨σ,hq,γ,hst⟩=>?_)
 have key:(∃ avs,retA E.tab σ fn.results.toList=some avs/\Sub (y2r σ (y6c avs)) res)->bodyPost E.P fn (fun e w'=>∃ v,e=.returned v/\BelE E w w'/\Rep w' (fun b=>(fr=false/\S b)\/w.heap.size<=b) G0 res v) .ret a w':=by
  rintro ⟨avs,h1,hsub⟩
  obtain ⟨v,hv,hr⟩:=zjd hst h1
  refine ⟨hst.defers.d0 hrg,v,hv,v,rfl,⟨hst.below,hst.dr⟩,?_⟩
  have h2:=(y2q (S':=fun b=>S b\/w.heap.size<=b) hst (fun b hb=>?_) hr).sub hsub
  ·rcases hfr with hfr|hfr
   ·exact h2.mono (Nat.le_refl _) (fun b hb _=>⟨rfl,hb.elim (fun h=>Or.inl ⟨hfr,h⟩) Or.inr⟩)
   ·exact h2.flat hfr
  ·rcases hb with hb|hb
   ·rcases hb with ⟨hb,_⟩|⟨hb,_⟩
    ·exact Or.inl hb.1
    ·exact Or.inr hb.1
   ·exact Or.inr (hst.ge b hb).1.1
 cases e with
 |normal=>exact key (zuf hq)
 |ret=>exact key (zuf hq)
 |_=>exact hq.elim
def endR (fn:Func)(ty sz:Nat)(xs:List AV)(σ:AS):Prop:=match fn.results.toList with
 |[.tmp t]=>match σ.get t with
  |.row id=>match σ.find id with
   |some (.row ty' sz' xs')=>RowX ty' sz' xs' ty sz xs
   |_=>False
  |_=>False
 |_=>False
def EndR (fn:Func)(ty sz:Nat)(xs:List AV):Exit->AS->Prop
 |.normal,σ=>endR fn ty sz xs σ
 |.ret,σ=>endR fn ty sz xs σ
 |_,_=>False
theorem y7t {ty:Nat}(h:endR fn ty sz xs σ):∃ t id,fn.results.toList=[.tmp t]/\σ.get t=.row id/\σ.find id=some (.row ty sz xs):=by
 unfold endR at h
 split at h
 ·rename_i t ht
  split at h
  ·rename_i id hid
   split at h
   ·rename_i ty' sz' xs' hf
    cases h with
    |mk h1 h2 h3=>subst h1;subst h2;subst h3;exact ⟨t,id,ht,hid,hf⟩
   ·exact h.elim
  ·exact h.elim
 ·exact h.elim
theorem zrj.of {c:Code}{ty:Nat}(hf:E.P.funcs[f]? = some fn)(hb:fn.body=some c)(he:zfg E f)(hn:args.length<=fn.ntmps)
  (h:∀ S w,WP (Cx.call E S w fn.ntmps) c (EndR fn ty sz xs) (zwg args)) (hrg:E.rg=false) (hyl:E.yl=none) (hnp:E.np=0):zrj E f args ty sz xs:=by
 refine ⟨he,fun S w vs ha=>callsIn_wide.1 (callsIn_of_wp (F:=Fence.wide) (n:=0) hf hb trivial ?_)⟩
 refine wpIn_mono (h S w _ _ (zww hyl hnp ha hn)) (fun e a w' ⟨σ,hq,γ,hst⟩=>?_)
 have key:(∃ t id,fn.results.toList=[.tmp t]/\σ.get t=.row id/\σ.find id=some (.row ty sz xs))->bodyPost E.P fn (fun e w'=>∃ v us,e=.returned v/\Below w.heap.size w w'/\w'.ownsRow w.heap.size ty sz v xs.length us /\
  (∀ k (hk:k<xs.length),(xs[k]).cells.length=sz)/\(∀ k (hk:k<xs.length) j (hj:j<(xs[k]).cells.length),Rep w' (fun b=>(S b\/w.heap.size<=b)/\v.ownBlock≠some b) G0 ((xs[k]).cells[j]) (us.getD (k*sz+j) undef))/\∀ u∈us,u.oneCell'=true) .ret a w':=by
  rintro ⟨t,id,h1,h2,h3⟩
  obtain ⟨v,hv,hr⟩:=zjd (avs:=[.row id]) hst (by rw [h1];simp [retA,h2])
  have hme:=hst.me id
  rw [h3] at hme
  obtain ⟨d,hd,s,us,hde,hone,hown,hlen,hrr,hone2⟩:=hme
  subst hde
  have hvs:v=s:=hr.row_inv hd
  subst hvs
  refine ⟨hst.defers.d0 hrg,v,hv,v,us,rfl,hst.below,hown,hlen,fun k hk j hj=>?_,hone2⟩
  refine (hrr k hk j hj).mono (Nat.le_refl _) (fun b hS _=>⟨rfl,?_,fun e=>?_⟩)
  ·rcases hS with ⟨hS,_⟩|⟨hS,_⟩
   ·exact Or.inl hS.1
   ·exact Or.inr hS.1
  ·have ho:own γ b:=⟨id,_,hd,by rw [e];exact z4e⟩
   rcases hS with ⟨_,hS⟩|⟨_,hS⟩
   ·have:=(hst.ge b ho).1.1;exact absurd hS (by show ¬b<w.heap.size;exact Nat.not_lt.2 this)
   ·exact hS ho
 cases e with
 |normal=>exact key (y7t hq)
 |ret=>exact key (y7t hq)
 |_=>exact hq.elim
end Go.Proofs.YtidhlpjgifoneaaGreat
