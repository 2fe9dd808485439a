/- The abstract walk, before its evaluator. -/
import Derived.Test.YtidhlpjgifoneaaGreatK06
set_option linter.unusedVariables false
set_option linter.unusedSimpArgs false
namespace Go.Proofs.YtidhlpjgifoneaaGreat
open Go.RowKit List
section
variable {α:Type}
theorem y2z (l m:List α)(o q:Nat)(h:o+m.length<=l.length):(l.take o++m++l.drop (o+m.length))[q]? = if q<o then l[q]? else if q<o+m.length then m[q-o]? else l[q]? := by
 by_cases h1:q<o
 ·rw [if_pos h1,append_assoc,getElem?_append_left (by simp;omega),getElem?_take_of_lt h1]
 ·rw [if_neg h1]
  by_cases h2:q<o+m.length
  ·rw [if_pos h2,append_assoc,getElem?_append_right (by simp;omega),getElem?_append_left (by simp;omega)]
   rw [show q-(List.take o l).length=q-o by simp;omega]
  ·rw [if_neg h2,getElem?_append_right (by simp;omega),getElem?_drop]
   rw [show o+m.length+(q-(List.take o l++m).length)=q by simp;omega]
theorem y2x (l m:List α)(o n:Nat)(h:o+m.length<=n)(hn:n<=l.length):(l.take o++m++l.drop (o+m.length)).take n=(l.take n).take o++m++(l.take n).drop (o+m.length):=by
 apply ext_getElem?
 intro q
 rw [y2z (l.take n) m o q (by simp;omega)]
 by_cases hq:q<n
 ·rw [getElem?_take_of_lt hq,y2z l m o q (by omega),getElem?_take_of_lt hq]
 ·rw [getElem?_eq_none (by simp;omega),if_neg (by omega),if_neg (by omega),getElem?_eq_none (by simp;omega)]
theorem zrk (l m:List α)(o:Nat)(h:o+m.length<=l.length):(l.take o++m++l.drop (o+m.length)).length=l.length:=by simp;omega
end
section
variable {cx:Cx} {σ:AS} {o:Oper}
theorem zxy {T id sz k j:Nat}{x y:Operand}{i:TyI}{ty:TypeId}{xs:List AV}{av el el':AV}(ho:o.op=.store T x y)(hd:dok cx o=true)(hxo:z0r x=true)(hyo:z0r y=true)(hx:σ.eval x=.elt id sz k j)(hy:σ.eval y=av)(hT:lkT cx.E.tab T=some i)(hl:σ.find id=some (.row ty sz xs))
  (he:xs[k]? = some el) (hav:av.cells.length=i.sz) (hfit:j+i.sz<=sz) (hc:okc σ av=true) (hcl:av.closed=true) (hel:el'.cells=el.cells.take j++av.cells++el.cells.drop (j+i.sz)) :
  z11 cx o σ (.tup []) (id::av.ids) [(id,.row ty sz (xs.set k el'))]:=by
 refine ⟨fun id' e he=>?_,fun τ h1 h2 a w Q K ⟨γ,hst⟩ hK=>zhj (fun c hc=>by rw [ho] at hc;cases hc) ?_⟩
 ·simp only [lkE] at he
  cases hb:Nat.beq id id' with
  |true=>simp [Nat.eq_of_beq_eq_true hb]
  |false=>rw [hb] at he;cases he
 have hev:=hst.ev x hxo
 rw [h1 x (by simp [ho,Op.operands]),hx] at hev
 have hevy:=hst.ev y hyo
 rw [h1 y (by simp [ho,Op.operands]),hy] at hevy
 have hme:=hst.me id
 rw [h2 id (by simp),hl] at hme
 obtain ⟨d,hd',s,vs,hde,hs1,hown,hlen,hr,hone⟩:=hme
 subst hde
 obtain ⟨hk,hek⟩:=List.getElem?_eq_some_iff.1 he
 obtain ⟨hvl,hform⟩:=hown
 rcases hform with ⟨_,h0⟩|⟨g,cap,cur,rfl,hbase,hheap,hncap,hm,hcs,htake⟩
 ·omega
 have hd':γ id=some (some (some g,.slice (some ⟨g,0,none⟩) xs.length cap)):=hd'
 have e:=hev.elt_inv hd'
 obtain ⟨c1,c2,c3⟩:=zuk hst hevy hc (fun id hid=>h2 id (by simp [hid]))
 have hone':∀ u∈(a.eval y).cells.toList,u.oneCell'=true:=fun u hu=>by
  obtain ⟨q,hq,rfl⟩:=mem_iff_getElem.1 hu
  have hq':q<(a.eval y).cells.size:=by simpa using hq
  have:=c3 q hq'
  simpa [Array.getD,hq'] using this
 have hml:(a.eval y).cells.toList.length=i.sz:=by simp;omega
 have hle:=hlen k hk
 have hks:k*sz+sz<=xs.length*sz:=by
  have:(k+1)*sz<=xs.length*sz:=Nat.mul_le_mul_right _ hk
  rw [Nat.succ_mul] at this
  exact this
 have hcc:xs.length*sz<=cap*sz:=Nat.mul_le_mul_right _ hncap
 have hrun:=zkr (cx.E.ok T i hT) w g (k*sz+j) ty cur (a.eval y) hheap (c1.trans hav) (by omega) hone'
 unfold Oper.wp
 generalize hcur':(cur.toList.take (k*sz+j)++(a.eval y).cells.toList++cur.toList.drop (k*sz+j+i.sz)).toArray=cur' at hrun
 have hex:(execOp a.eval o).run cx.P w=.ok .skip (w.setRow g cur'):=by
  simp only [execOp,ho,e,Instr.storeAt,Instr.sureAddr,Sem.run_bind,Sem.run_pure,Result.andThen_ok,hrun]
 rw [hex]
 have hblk:=setRow_heap w g cur cur' ty (0,0) hheap
 have hoth:∀ q,q≠g->(w.setRow g cur').heap[q]? = w.heap[q]? := fun q hq=>setRow_other w g q _ hq
 have hgo:own γ g:=own.mk hd'
 have hgl:=hst.ge g hgo
 have hns:∀ b,Sg cx.S0 cx.w0.heap.size γ b->b≠g:=fun b hS e=>by
  subst e
  rcases hS with ⟨_,h⟩|⟨_,h⟩
  ·have:=hgl.1.1;omega
  ·exact h hgo
 generalize hw':w.setRow g cur'=w' at *
 have hz:w.heap.size<=w'.heap.size:=by rw [<-hw'];simp
 have hdr:w.drawn<=w'.drawn:=by rw [<-hw'];exact Nat.le_refl _
 have hmv:∀ {γ':Gam} {av v},Rep w (Sg cx.S0 cx.w0.heap.size γ) γ' av v->Rep w' (Sg cx.S0 cx.w0.heap.size γ) γ' av v:=fun h=>h.mono hz (fun b hS _=>⟨hoth b (hns b hS),hS⟩)
 refine hK _ _ ⟨γ,hst.step (z9f hd) hz (fun b hS hlt=>⟨hoth b (hns b hS),hS⟩) (fun id d h=>Or.inl h) (fun id' hid'=>⟨rfl,fun g' s hg' hm'=>hoth g' ?_⟩) (fun id' e' he'=>?_) hst.inj (fun b hbo=>⟨(hst.ge b hbo).1,Nat.lt_of_lt_of_le (hst.ge b hbo).2 hz⟩) ?_ (.tup #[] rfl (fun i hi=>by simp at hi)) (fun b hno _=>⟨hoth b (fun e=>hno (e▸hgo)),hno⟩) (fun _=>hdr)⟩
 ·rintro rfl
  have:=hst.inj _ _ _ _ _ hg' hd' hm' z4e
  subst this
  simp [lkE] at hid'
 ·have hid:id'=id:=by
   simp only [lkE] at he'
   cases hbq:Nat.beq id id' with
   |true=>exact (Nat.eq_of_beq_eq_true hbq).symm
   |false=>rw [hbq] at he';cases he'
  subst hid
  simp only [lkE,Nat.beq_refl,Option.some.injEq] at he'
  subst he'
  have hvs':cur'.toList.take (xs.length*sz)=vs.take (k*sz+j)++(a.eval y).cells.toList++vs.drop (k*sz+j+i.sz):=by
   rw [<-hcur',<-htake,<-hml]
   exact y2x _ _ _ _ (by omega) (by simp;omega)
  have hget:∀ q,(vs.take (k*sz+j)++(a.eval y).cells.toList++vs.drop (k*sz+j+i.sz))[q]? = if q<k*sz+j then vs[q]? else if q<k*sz+j+i.sz then (a.eval y).cells.toList[q-(k*sz+j)]? else vs[q]? := fun q=>by
   rw [<-hml];exact y2z _ _ _ _ (by omega)
  refine ⟨_,hd',.slice (some ⟨g,0,none⟩) xs.length cap,vs.take (k*sz+j)++(a.eval y).cells.toList++vs.drop (k*sz+j+i.sz),rfl,hs1,⟨?_,Or.inr ⟨g,cap,cur',by simp,hbase,hblk,by simpa using hncap,hm,?_,by simpa using hvs'⟩⟩,?_,?_,?_⟩
  ·rw [<-hml,zrk _ _ _ (by omega)];simpa using hvl
  ·rw [<-hcur']
   have:=zrk cur.toList (a.eval y).cells.toList (k*sz+j) (by simp;omega)
   rw [hml] at this
   simpa [hcs] using this
  ·intro q hq
   rw [length_set] at hq
   rw [getElem_set]
   by_cases hkq:k=q
   ·rw [if_pos hkq,hel]
    rw [hek] at hle
    simp;omega
   ·rw [if_neg hkq];exact hlen q hq
  ·intro q hq r hrq
   rw [length_set] at hq
   have hlq:=hlen q hq
   rw [getD_eq_getElem?_getD,hget]
   rw [getElem_set] at hrq
   by_cases hkq:k=q
   ·subst hkq
    rw [hek] at hle
    simp only [getElem_set_self]
    rw [if_pos rfl,hel] at hrq
    simp only [length_append,length_take,length_drop] at hrq
    have hold:∀ r,(h:r<el.cells.length)->Rep w' (Sg cx.S0 cx.w0.heap.size γ) G0 el.cells[r] (vs[k*sz+r]?.getD undef):=fun r h=>by
     have:=hr k hk r (by rw [hek];exact h)
     simp only [hek] at this
     rw [getD_eq_getElem?_getD] at this
     exact hmv this
    have hgt:(el'.cells)[r]? = if r<j then el.cells[r]? else if r<j+i.sz then av.cells[r-j]? else el.cells[r]? := by
     rw [hel,<-hav];exact y2z _ _ _ _ (by omega)
    have hrl:r<el'.cells.length:=by rw [hel];simp;omega
    rw [getElem?_eq_getElem hrl] at hgt
    by_cases h1:r<j
    ·rw [if_pos (by omega)]
     rw [if_pos h1,getElem?_eq_getElem (by omega)] at hgt
     injection hgt with hgt
     rw [hgt]
     exact hold r (by omega)
    ·rw [if_neg (by omega)]
     rw [if_neg h1] at hgt
     by_cases h2:r<j+i.sz
     ·rw [if_pos (by omega)]
      rw [if_pos h2,getElem?_eq_getElem (by omega)] at hgt
      injection hgt with hgt
      rw [hgt]
      have hq2:=c2 (r-j) (by omega)
      have:=(hmv hq2).close (γ':=G0) (zqo hcl (r-j) (by omega))
      rw [show k*sz+r-(k*sz+j)=r-j by omega]
      simpa [Array.getD_eq_getD_getElem?] using this
     ·rw [if_neg (by omega)]
      rw [if_neg h2,getElem?_eq_getElem (by omega)] at hgt
      injection hgt with hgt
      rw [hgt]
      exact hold r (by omega)
   ·have hne:(xs.set k el')[q]'(by simpa using hq)=xs[q]:=by rw [getElem_set,if_neg hkq]
    rw [if_neg hkq] at hrq
    simp only [hne]
    have:=hmv (hr q hq r hrq)
    rw [getD_eq_getElem?_getD] at this
    have hdis:¬(k*sz+j<=q*sz+r/\q*sz+r<k*sz+j+i.sz):=fun ⟨h1,h2⟩=>by
     rcases Nat.lt_or_gt_of_ne hkq with hlt|hgt
     ·have:(k+1)*sz<=q*sz:=Nat.mul_le_mul_right _ hlt
      rw [Nat.succ_mul] at this
      omega
     ·have:(q+1)*sz<=k*sz:=Nat.mul_le_mul_right _ hgt
      rw [Nat.succ_mul] at this
      omega
    by_cases h1:q*sz+r<k*sz+j
    ·rw [if_pos h1];exact this
    ·rw [if_neg h1,if_neg (by omega)];exact this
  ·intro u hu
   simp only [mem_append] at hu
   rcases hu with (hu|hu)|hu
   ·exact hone u (mem_of_mem_take hu)
   ·exact hone' u hu
   ·exact hone u (mem_of_mem_drop hu)
 ·refine hst.below.trans ⟨by rw [<-hw'];rfl,by rw [<-hw'];rfl,by rw [<-hw'];rfl,hz,fun k hk=>hoth k (by have:=hgl.1.1;omega)⟩
theorem zyo {τ:AS}{γ:Gam}{a:Act}{w w':World}{dst:Option Nat}{d ty sz:Nat}{xs:List AV}{v u:Value}{us:List Value}{av:AV}(hst:StG cx γ τ a w)(hdr:cx.E.dr=true->w.drawn<=w'.drawn)(hn:τ.find d=none)(hd:∀ x,dst=some x->cx.E.np<=x/\x<cx.nt)(hb:Below w.heap.size w w')(hown:w'.ownsRow w.heap.size ty sz v xs.length us)
  (hlen:∀ k (hk:k<xs.length),(xs[k]).cells.length=sz) (hre:∀ k (hk:k<xs.length) j (hj:j<(xs[k]).cells.length),Rep w' (fun b=>(Sg cx.S0 cx.w0.heap.size γ b\/w.heap.size<=b)/\v.ownBlock≠some b) G0 ((xs[k]).cells[j]) (us.getD (k*sz+j) undef)) (hone:∀ u∈us,u.oneCell'=true)
  (hu:(∀ b,(Sg cx.S0 cx.w0.heap.size γ b\/w.heap.size<=b)/\v.ownBlock≠some b->Sg cx.S0 cx.w0.heap.size (γ.set d (some (v.ownBlock,v))) b)->Rep w' (Sg cx.S0 cx.w0.heap.size (γ.set d (some (v.ownBlock,v)))) (γ.set d (some (v.ownBlock,v))) av u) :
  St cx (τ.upd dst av [(d,.row ty sz xs)]) (a.put dst u) w':=by
 have hγd:γ d=none:=by have:=hst.me d;rw [hn] at this;exact this
 have hsz:=hst.below.size
 generalize hγ':γ.set d (some (v.ownBlock,v))=γ' at *
 have hself:γ' d=some (some (v.ownBlock,v)):=by rw [<-hγ'];exact Gam.set_self _ _ _
 have hother:∀ i,i≠d->γ' i=γ i:=fun i hi=>by rw [<-hγ'];exact Gam.set_ne _ _ _ hi
 have hvb:∀ b,v.ownBlock=some b->w.heap.size<=b/\b<w'.heap.size:=fun b hvb=>by
  rcases hown.2 with ⟨hv,_⟩|⟨g,cap,cur,hv,hbg,hh,_⟩
  ·rw [hv] at hvb;simp [Value.ownBlock] at hvb
  ·rw [hv] at hvb;simp only [Value.ownBlock,Option.some.injEq] at hvb;subst hvb
   exact ⟨hbg,(Array.getElem?_eq_some_iff.1 hh).1⟩
 have hown':∀ b,own γ' b->v.ownBlock=some b\/own γ b:=fun b ⟨id,s,hi,hm⟩=>by
  by_cases h:id=d
  ·subst h;rw [hself] at hi;injection hi with hi;subst hi;exact Or.inl (zhn (zhl (zb0 hown)) hm)
  ·rw [hother id h] at hi;exact Or.inr ⟨id,s,hi,hm⟩
 have hold:∀ i x,γ i=some x->i≠d:=fun i x hx e=>by subst e;rw [hγd] at hx;cases hx
 have hS:∀ b,(Sg cx.S0 cx.w0.heap.size γ b\/w.heap.size<=b)/\v.ownBlock≠some b->Sg cx.S0 cx.w0.heap.size γ' b:=fun b ⟨h1,h2⟩=>by
  rcases h1 with (h1|⟨h1,h3⟩)|h1
  ·exact Or.inl h1
  ·refine Or.inr ⟨h1,fun ho=>?_⟩
   rcases hown' b ho with h|h
   ·exact h2 h
   ·exact h3 h
  ·refine Or.inr ⟨⟨Nat.le_trans hsz h1,fun h0=>by have:=hst.gh _ h0;omega⟩,fun ho=>?_⟩
   rcases hown' b ho with h|h
   ·exact h2 h
   ·have:=(hst.ge b h).2;omega
 have hstab:∀ b,Sg cx.S0 cx.w0.heap.size γ b->b<w.heap.size->Sg cx.S0 cx.w0.heap.size γ' b:=fun b hb hlt=>hS b ⟨Or.inl hb,fun e=>by have:=(hvb b e).1;omega⟩
 refine ⟨γ',hst.step (γ':=γ') hd hb.size (fun b hS hlt=>⟨hb.block b hlt,hstab b hS hlt⟩) (fun i x hx=>Or.inl (by rw [hother i (hold i x hx)];exact hx)) (fun i hi=>?_) (fun i e' hi=>?_) (fun i j b s1 s2 h1 h2 m1 m2=>?_) (fun b hbo=>?_) (hst.below.trans (hb.mono hsz)) (hu hS) (fun b hno hlt=>⟨hb.block b hlt,fun ho'=>by
  rcases hown' b ho' with h|h
  ·have:=(hvb b h).1;omega
  ·exact hno h⟩) hdr⟩
 ·have hid:i≠d:=fun e=>by subst e;simp [lkE] at hi
  exact ⟨hother i hid,fun g' s' hg' hm'=>hb.block g' (hst.ge g' ⟨i,s',hg',hm'⟩).2⟩
 ·have hid:i=d:=by
   simp only [lkE] at hi
   cases hbq:Nat.beq d i with
   |true=>exact (Nat.eq_of_beq_eq_true hbq).symm
   |false=>rw [hbq] at hi;cases hi
  subst hid
  simp only [lkE,Nat.beq_refl,Option.some.injEq] at hi
  subst hi
  exact ⟨_,hself,v,us,rfl,zb0 hown,⟨hown.1,hown.2.elim Or.inl (fun ⟨g,cap,cur,hv,hg,r⟩=>Or.inr ⟨g,cap,cur,hv,Nat.le_trans hsz hg,r⟩)⟩,hlen,fun k hk j hj=>(hre k hk j hj).mono (Nat.le_refl _) (fun b hb _=>⟨rfl,hS b hb⟩),hone⟩
 ·by_cases hi:i=d
  ·by_cases hj:j=d
   ·rw [hi,hj]
   ·subst hi
    rw [hself] at h1
    rw [hother j hj] at h2
    injection h1 with h1
    subst h1
    have q1:=(hvb b (zhn (zhl (zb0 hown)) m1)).1
    have q2:=(hst.ge b ⟨j,_,h2,m2⟩).2
    omega
  ·rw [hother i hi] at h1
   by_cases hj:j=d
   ·subst hj
    rw [hself] at h2
    injection h2 with h2
    subst h2
    have q1:=(hvb b (zhn (zhl (zb0 hown)) m2)).1
    have q2:=(hst.ge b ⟨i,_,h1,m1⟩).2
    omega
   ·rw [hother j hj] at h2
    exact hst.inj _ _ _ _ _ h1 h2 m1 m2
 ·rcases hown' b hbo with h|h
  ·exact ⟨⟨Nat.le_trans hsz (hvb b h).1,fun h0=>by have:=hst.gh _ h0;have:=(hvb b h).1;omega⟩,(hvb b h).2⟩
  ·exact ⟨(hst.ge b h).1,Nat.lt_of_lt_of_le (hst.ge b h).2 hb.size⟩
theorem zy4 {T id off:Nat}{x y:Operand}{i:TyI}{len e esz:Nat}{ag:Option Bool}{ty:TypeId}{cs:List AV}{k:IntKind}{n:Int}{m:Nat}(ho:o.op=.indexAddr T x y)(hd:dok cx o=true)(hxo:z0r x=true)(hyo:z0r y=true)(hx:σ.eval x=.ptr id off)(hy:σ.eval y=.int k n)
  (hl:σ.find id=some (.box ty cs)) (hT:lkT cx.E.tab T=some i) (hs:i.shape=.arr len e esz ag) (hz:esz≠0) (hn:n=(m:Int)) (hm:m<len):z11 cx o σ (.ptr id (off+m*esz)) [id] [] :=
 z14 hd fun τ γ a w h1 h2 hst=>by
  have hev:=hst.ev x hxo
  rw [h1 x (by simp [ho,Op.operands]),hx] at hev
  have hevy:=hst.ev y hyo
  rw [h1 y (by simp [ho,Op.operands]),hy] at hevy
  have hme:=hst.me id
  rw [h2 id (by simp),hl] at hme
  obtain ⟨d,hd',g,vs,hde,_⟩:=hme
  subst hde
  obtain ⟨hu,hce,_⟩:=yg5 (cx.E.ok T i hT) hs
  have ex:=hev.ptr_inv hd'
  refine ⟨.pointer (some ⟨g,off+m*esz,none⟩),?_,.ptr hd' (fun g' s e=>by injection e with e;injection e with e _;injection e with e;rw [e])⟩
  subst hn
  simp [execOp,ho,ex,hevy.int_inv,Instr.indexAt,Instr.sureAddr,asIntOf,run_underlying hu,z8a hce hz,hm,pure,Addr.add_lit]
theorem y33 {T d:Nat}{ps:Array (Nat×Operand)}{i ie:TyI}{e esz eb:Nat}(ho:o.op=.buildSlice T 0 ps)(hdst:o.dst=some d)(hd:dok cx o=true)(hT:lkT cx.E.tab T=some i)(hs:i.shape=.slc e esz eb)(he:lkT cx.E.tab e=some ie)(hz:esz≠0)(hps:ps=#[])(hn:σ.find d=none) :
  z11 cx o σ (.row d) [d] [(d,.row e esz [])]:=by
 refine ⟨fun id e he=>?_,fun τ h1 h2 a w Q K ⟨γ,hst⟩ hK=>zhj (fun c hc=>by rw [ho] at hc;cases hc) ?_⟩
 ·simp only [lkE] at he
  cases hb:Nat.beq d id with
  |true=>simp [Nat.eq_of_beq_eq_true hb]
  |false=>rw [hb] at he;cases he
 subst hps
 have hrun:=zlf (n:=0) (parts:=#[]) (cells':=#[]) (cx.E.ok T i hT) hs (cx.E.ok e ie he) hz (by omega) (by simp [Instr.fill]) w
 unfold Oper.wp
 have hex:(execOp a.eval o).run cx.P w=.ok (.value (.slice (some ⟨w.heap.size,0,none⟩) 0 0)) (w.alloc (.cells #[] e)):=by
  have e':(Array.map (fun x:Nat×Operand=>(x.1,a.eval x.2)) #[])=(#[]:Array (Nat×Value)):=by simp
  simp only [execOp,ho,Sem.run_bind,Sem.run_pure,Result.andThen_ok]
  rw [e',hrun]
  rfl
 rw [hex]
 refine hK _ _ ?_
 rw [hdst]
 exact zyo (v:=.slice (some ⟨w.heap.size,0,none⟩) 0 0) (us:=[]) hst (fun _=>Nat.le_refl _) (by rw [h2 d (by simp),hn]) (fun x hx=>by injection hx with hx;subst hx;exact z9f hd _ hdst) ((Below.refl _ _).alloc (Nat.le_refl _) _)
  ⟨by simp,Or.inr ⟨w.heap.size,0,#[],by simp,Nat.le_refl _,Blk.new w _ _,by simp,by simp,by simp,by simp⟩⟩ (fun k hk=>by simp at hk) (fun k hk=>by simp at hk) (fun u hu=>by simp at hu)
  (fun hS=>.row (Gam.set_self _ _ _) (fun g s e _=>by injection e with e;injection e with _ e))
end
end Go.Proofs.YtidhlpjgifoneaaGreat
