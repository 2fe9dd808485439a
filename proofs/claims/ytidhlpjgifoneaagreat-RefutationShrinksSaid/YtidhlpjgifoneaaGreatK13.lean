/- The abstract walk. -/
import Derived.Test.YtidhlpjgifoneaaGreatK12
import GoSem.Instr.MapEntry
set_option linter.unusedVariables false
set_option linter.unusedSimpArgs false
namespace Go.Proofs.YtidhlpjgifoneaaGreat
open Go.RowKit List
section
variable {cx:Cx} {o:Oper} {σ:AS}
variable {id ty sz:Nat}{xs:List AV}
theorem zuz {γ:Gam}{τ:AS}{a:Act}{w:World}(hst:StG cx γ τ a w)(hl:τ.find id=some (.row ty sz xs)) :
  ∃ s vs,γ id=some (some (s.ownBlock,s))/\s.oneCell'=true/\w.ownsRow cx.w0.heap.size ty sz s xs.length vs/\(∀ k (hk:k<xs.length),(xs[k]).cells.length=sz) /\
   (∀ k (hk:k<xs.length) j (hj:j<(xs[k]).cells.length),Rep w (Sg cx.S0 cx.w0.heap.size γ) G0 ((xs[k]).cells[j]) (vs.getD (k*sz+j) undef))/\∀ u∈vs,u.oneCell'=true:=by
 have hme:=hst.me id
 rw [hl] at hme
 obtain ⟨d,hd',s,vs,hde,h1,hown,hlen,hr,hone⟩:=hme
 subst hde
 exact ⟨s,vs,hd',h1,hown,hlen,hr,hone⟩
variable {T e esz eb lo:Nat}{x:Operand}{i:TyI}
theorem y9r {y:Operand}{k:IntKind}(ho:o.op=.slice T x (some y) none none)(hd:dok cx o=true)(hxo:z0r x=true)(hyo:z0r y=true)(hx:σ.eval x=.row id)(hy:σ.eval y=.int k (lo:Int))(hT:lkT cx.E.tab T=some i)(hs:i.shape=.slc e esz eb)(hz:esz≠0)
  (hl:σ.find id=some (.row ty esz xs)) (hlo:lo<=xs.length):z11 cx o σ (.der (.sub esz lo) id) [id] [] :=
 z14 hd fun τ γ a w hh1 hh2 hst=>by
  obtain ⟨m1,m2,m3⟩:=zxp ho
  have hev:=hst.ev x hxo
  rw [hh1 x m1,hx] at hev
  obtain ⟨hu,hce,_⟩:=zey (cx.E.ok T i hT) hs
  have hsz:=z8a hce hz w
  obtain ⟨s,us,hd',hone1,hown,_⟩:=zuz (id:=id) hst (by rw [hh2 id (by simp)];exact hl)
  have hB:∀ c,xs.length<=c->(Instr.sliceBounds true xs.length c (some (a.eval y)) none none).run cx.P w=.ok (lo,xs.length,c) w:=fun c hc =>
   zrz (σ:=σ) (l:=lo) (h:=xs.length) (c:=c) (n:=xs.length) (lo:=some y) (hi:=none) hst hyo rfl (fun z hz=>hh1 z (m2 z hz)) (fun z hz=>by cases hz) (by simp [bndA,hy]) (by simp [bndA]) hlo hc
  rcases hown.2 with ⟨hv,h0⟩|⟨g,cap,cur,hv,_,_,hn2,_⟩
  ·have hx0:xs.length=0:=h0
   have hl0:lo=0:=by omega
   have hB:=hB 0 (by omega)
   rw [hx0] at hB
   subst hv
   refine ⟨.slice none 0 0,?_,.der hd' (fun g s e=>by injection e with e;injection e with _ e;subst e;exact ⟨rfl,rfl⟩)⟩
   simp only [execOp,ho,hev.row_inv hd',Option.map_none,Option.map_some,Sem.run_bind,Sem.run_pure,Result.andThen_ok]
   simp [Instr.sliceAt,Instr.slice,run_underlying hu,hB,hsz,pure]
  ·have hB:=hB cap hn2
   subst hv
   refine ⟨.slice (some (if cap=lo then ⟨g,0,none⟩ else ⟨g,0+lo*esz,none⟩)) (xs.length-lo) (cap-lo),?_,.der hd' (fun g s e=>by injection e with e;injection e with _ e;subst e;exact ⟨rfl,rfl⟩)⟩
   simp only [execOp,ho,hev.row_inv hd',Option.map_none,Option.map_some,Sem.run_bind,Sem.run_pure,Result.andThen_ok]
   simp [Instr.sliceAt,Instr.slice,run_underlying hu,hB,hsz,pure,Addr.add_lit]
   split<;>rfl
theorem yg8 {γ:Gam}{τ:AS}{a:Act}{w:World}{v:Value}(hst:StG cx γ τ a w)(hl:τ.find id=some (.row ty sz xs))(hv:Rep w (Sg cx.S0 cx.w0.heap.size γ) γ (.der (.sub sz lo) id) v)(hlo:lo<xs.length) :
  ∃ g cap cur us,γ id=some (some (some g,.slice (some ⟨g,0,none⟩) xs.length cap))/\v=.slice (some ⟨g,lo*sz,none⟩) (xs.length-lo) (cap-lo)/\xs.length<=cap/\w.ownsRow cx.w0.heap.size ty sz (.slice (some ⟨g,0,none⟩) xs.length cap) xs.length us/\w.heap[g]? = some (.cells cur ty (0,0))/\cur.size=cap*sz/\cur.toList.take (xs.length*sz)=us/\(∀ k (hk:k<xs.length),(xs[k]).cells.length=sz) /\
   (∀ k (hk:k<xs.length) j (hj:j<(xs[k]).cells.length),Rep w (Sg cx.S0 cx.w0.heap.size γ) G0 ((xs[k]).cells[j]) (us.getD (k*sz+j) undef))/\∀ u∈us,u.oneCell'=true:=by
 obtain ⟨s,us,hd',hone1,hown,hlen,hr,hone⟩:=zuz hst hl
 have hown0:=hown
 rcases hown.2 with ⟨hs,h0⟩|⟨g,cap,cur,hs,_,hh,hn2,_,hcs,htk⟩
 ·omega
 ·subst hs
  refine ⟨g,cap,cur,us,hd',?_,hn2,hown0,hh,hcs,htk,hlen,hr,hone⟩
  rw [hv.der_inv hd']
  have:¬cap=lo:=by omega
  simp [Dv.of,this]
theorem ygo {ty:TypeId}(ho:o.op=.call { callee:=.builtin .len,args:=#[x],argTypes:=#[T] })(hd:dok cx o=true)(hxo:z0r x=true)(hx:σ.eval x=.der (.sub sz lo) id)(hl:σ.find id=some (.row ty sz xs))(hT:lkT cx.E.tab T=some i)(hs:i.shape=.slc e esz eb)(hlo:lo<=xs.length):z11 cx o σ (.int .i64 ((xs.length-lo:Nat):Int)) [id] [] :=
 z14 hd fun τ γ a w h1 h2 hst=>by
  have hev:=hst.ev x hxo
  rw [h1 x (by simp [ho,Op.operands,Call.operands]),hx] at hev
  obtain ⟨hu,_,_⟩:=zey (cx.E.ok T i hT) hs
  obtain ⟨s,us,hd',hone1,hown,_⟩:=zuz (id:=id) hst (by rw [h2 id (by simp)];exact hl)
  have hsl:∃ A c,a.eval x=.slice A (xs.length-lo) c:=by
   rw [hev.der_inv hd']
   rcases hown.2 with ⟨hv,h0⟩|⟨g,cap,cur,hv,_⟩
   ·have hx0:xs.length=0:=h0
    subst hv
    exact ⟨none,0,by rw [hx0,Nat.zero_sub];rfl⟩
   ·subst hv;exact ⟨_,_,rfl⟩
  obtain ⟨A,c,hsl⟩:=hsl
  refine ⟨.int .i64 ((xs.length-lo:Nat):Int),?_,.int _ _⟩
  simp only [execOp,ho,resolve,invoke,builtin,Builtin.len_,Array.map_push,map_toArray,map_cons,map_nil,hsl]
  simp [run_underlying hu,goInt,pure]
theorem zy2 {y:Operand}{ty:TypeId}{k:IntKind}{n:Int}{m:Nat}(ho:o.op=.indexAddr T x y)(hd:dok cx o=true)(hxo:z0r x=true)(hyo:z0r y=true)(hx:σ.eval x=.der (.sub sz lo) id)(hy:σ.eval y=.int k n)
  (hl:σ.find id=some (.row ty sz xs)) (hT:lkT cx.E.tab T=some i) (hs:i.shape=.slc e sz eb) (hz:sz≠0) (hn:n=(m:Int)) (hm:lo+m<xs.length):z11 cx o σ (.elt id sz (lo+m) 0) [id] [] :=
 z14 hd fun τ γ a w h1 h2 hst=>by
  have hev:=hst.ev x hxo
  rw [h1 x (by simp [ho,Op.operands]),hx] at hev
  have hevy:=hst.ev y hyo
  rw [h1 y (by simp [ho,Op.operands]),hy] at hevy
  obtain ⟨hu,hce,_⟩:=zey (cx.E.ok T i hT) hs
  obtain ⟨g,cap,cur,us,hd',ex,hcap,_⟩:=yg8 (id:=id) hst (by rw [h2 id (by simp)];exact hl) hev (by omega)
  refine ⟨.pointer (some ⟨g,(lo+m)*sz,none⟩),?_,.elt hd' (fun g' s e=>by injection e with e;injection e with e _;simp only [Option.some.injEq] at e;rw [<-e];rfl)⟩
  subst hn
  have hm':m<xs.length-lo:=by omega
  simp [execOp,ho,ex,hevy.int_inv,Instr.indexAt,asIntOf,run_underlying hu,z8a hce hz,hm',pure,Addr.add_lit,Nat.add_mul]
theorem y2t (z:Array Value)(n q j:Nat)(hq:q<n)(hj:j<z.size):(Builtin.zeroCells z n).toList.getD (q*z.size+j) undef=z.getD j undef:=by
 have hlt:q*z.size+j<n*z.size:=by
  have:(q+1)*z.size<=n*z.size:=Nat.mul_le_mul_right _ hq
  rw [Nat.succ_mul] at this
  omega
 have hmod:(q*z.size+j) % z.size=j:=by rw [Nat.mul_comm,Nat.mul_add_mod,Nat.mod_eq_of_lt hj]
 rw [getD_eq_getElem?_getD]
 simp [Builtin.zeroCells,hlt,hmod,Array.getD,hj]
variable {α:Type}
def clrL (l:List α)(lo:Nat)(z:α):List α:=l.take lo++replicate (l.length-lo) z
theorem ybn (l:List α)(lo:Nat)(z:α)(h:lo<=l.length):(clrL l lo z).length=l.length:=by simp [clrL];omega
theorem ym0 {β:Type}(f:α->β)(l:List α)(lo:Nat)(z:α):clrL (l.map f) lo (f z)=(clrL l lo z).map f:=by simp [clrL]
theorem ya3 {ie:TyI}(ho:o.op=.call { callee:=.builtin .clear,args:=#[x],argTypes:=#[T] })(hd:dok cx o=true)(hxo:z0r x=true)(hx:σ.eval x=.der (.sub esz lo) id)(hl:σ.find id=some (.row e esz xs))(hT:lkT cx.E.tab T=some i)(hs:i.shape=.slc e esz eb)(he:lkT cx.E.tab e=some ie)(hz:esz≠0)
  (hzo:zvq ie=true) (hone0:ie.zero.cells.all (·.oneCell')=true) (hlo:lo<=xs.length):z11 cx o σ (.tup []) [id] [(id,.row e esz (clrL xs lo (zq2 ie)))]:=by
 refine ⟨fun id e he=>zhd he,fun τ h1 h2 a w Q K ⟨γ,hst⟩ hK=>zhj (fun c hc=>by rw [ho] at hc;cases hc) ?_⟩
 have hev:=hst.ev x hxo
 rw [h1 x (by simp [ho,Op.operands,Call.operands]),hx] at hev
 obtain ⟨hu,hce,_⟩:=zey (cx.E.ok T i hT) hs
 have hok:=cx.E.ok e ie he
 have hsz:ie.sz=esz:=hok.cells.symm.trans hce
 obtain ⟨hzc,hzs⟩:=zsx hzo
 have hzs':ie.zero.cells.size=esz:=hzs.trans hsz
 have hcl:(zq2 ie).cells.length=esz:=by rw [hzc,length_map,Array.length_toList,hzs']
 have hall:∀ v∈ie.zero.cells,v.oneCell'=true:=by
  rw [Array.all_eq_true_iff_forall_mem] at hone0
  exact hone0
 have hf:τ.find id=some (.row e esz xs):=by rw [h2 id (by simp)];exact hl
 have hlen':=ybn xs lo (zq2 ie) hlo
 unfold Oper.wp
 by_cases hlt:lo<xs.length
 ·obtain ⟨g,cap,cur,us,hd',ex,hcap,hown,hh,hcs,htk,hlen,hr,hone⟩:=yg8 (id:=id) hst hf hev hlt
  have hown0:=hown
  obtain ⟨hul,_⟩:=hown
  have hnl:(Builtin.zeroCells ie.zero.cells (xs.length-lo)).toList.length=(xs.length-lo)*esz:=by simp [Builtin.zeroCells,hzs']
  have hadd:lo*esz+(xs.length-lo)*esz=xs.length*esz:=by rw [<-Nat.add_mul];congr 1;omega
  have hcapm:xs.length*esz<=cap*esz:=Nat.mul_le_mul_right _ hcap
  have hz1:∀ v∈(Builtin.zeroCells ie.zero.cells (xs.length-lo)).toList,v.oneCell'=true:=fun v hv=>by
   obtain ⟨q,hq,rfl⟩:=mem_iff_getElem.1 hv
   rw [hnl] at hq
   have hpos:0<ie.zero.cells.size:=by omega
   have hmod:=Nat.mod_lt q hpos
   simp only [Builtin.zeroCells,Array.toList_map,getElem_map,Array.getElem_toList,Array.getElem_range]
   rw [getElem!_pos ie.zero.cells _ hmod]
   exact hall _ (Array.getElem_mem _)
  have hrun:=run_storeCells_at cx.P g (lo*esz) e (Builtin.zeroCells ie.zero.cells (xs.length-lo)).toList 0 cur w hh (by rw [hnl];omega) hz1
  simp only [Nat.add_zero,hnl] at hrun
  generalize hnw:(Builtin.zeroCells ie.zero.cells (xs.length-lo)).toList=news at hrun hnl hz1
  generalize hcur':(cur.toList.take (lo*esz)++news++cur.toList.drop (lo*esz+(xs.length-lo)*esz)).toArray=cur' at hrun
  have hne:xs.length-lo≠0:=by omega
  have hrun1:(Builtin.clear_ #[T] 0 #[a.eval x]).run cx.P w=.ok (.tuple #[]) (w.setRow g cur'):=by
   obtain ⟨m,hm⟩:∃ m,xs.length-lo=m+1:=⟨xs.length-lo-1,by omega⟩
   rw [hm] at hnw ex
   simp only [Builtin.clear_,ex]
   simp [run_underlying hu,hok.zeroV w,hnw,hrun,pure]
  have hty:∀ ty,(Builtin.clear_ #[T] ty #[a.eval x])=(Builtin.clear_ #[T] 0 #[a.eval x]):=fun ty=>rfl
  have hex:(execOp a.eval o).run cx.P w=.ok (.value (.tuple #[])) (w.setRow g cur'):=by
   simp only [execOp,ho,resolve,invoke,builtin,map_toArray,map_cons,map_nil,hty,Sem.run_bind,hrun1,Result.andThen_ok,Sem.run_pure]
  rw [hex]
  have hblk:=setRow_heap w g cur cur' e (0,0) hh
  have hoth:∀ q,q≠g->(w.setRow g cur').heap[q]? = w.heap[q]? := fun q hq=>setRow_other w g q _ hq
  have hzz:w.heap.size<=(w.setRow g cur').heap.size:=by simp
  have hgr:w.grownBy (w.setRow g cur') (some g):=⟨rfl,rfl,rfl,hzz,fun k hk hne=>hoth k (fun e=>hne (by rw [e]))⟩
  have hdr:w.drawn<=(w.setRow g cur').drawn:=Nat.le_refl _
  have hgo:own γ g:=own.mk hd'
  have hns:∀ b,Sg cx.S0 cx.w0.heap.size γ b->b≠g:=fun b hS e=>by
   subst e
   rcases hS with ⟨_,h⟩|⟨_,h⟩
   ·have:=(hst.ge b hgo).1.1;omega
   ·exact h hgo
  generalize w.setRow g cur'=w' at *
  have htk':cur'.toList.take (xs.length*esz)=us.take (lo*esz)++news:=by
   rw [<-hcur']
   simp only [<-htk]
   rw [toList_toArray,take_append,take_of_length_le (by simp;omega)]
   have:(List.take (lo*esz) cur.toList++news).length=xs.length*esz:=by simp [hnl];omega
   rw [this,Nat.sub_self,take_zero,append_nil,take_take,Nat.min_eq_left (by omega)]
  refine hK _ _ (zv2 (v:=.slice (some ⟨g,0,none⟩) xs.length cap) (us':=us.take (lo*esz)++news) hst (fun _=>hdr) hd' (z9f hd) hgr ?_ (fun k hk=>?_) (fun k hk j hj=>?_) (fun u hu=>?_) (.tup #[] rfl (fun j hj=>absurd hj (by simp))))
  ·rw [hlen']
   rcases hown0.2 with ⟨h,_⟩|⟨g',cap',cu,hv',hb',_,_,hm',_,_⟩
   ·cases h
   ·injection hv' with e1 e2 e3
    injection e1 with e1
    injection e1 with e1 _ _
    subst e1
    subst e3
    refine ⟨by simp [hnl];omega,Or.inr ⟨g,cap,cur',rfl,hb',hblk,hcap,hm',?_,htk'⟩⟩
    rw [<-hcur']
    simp [hnl]
    omega
  ·rw [hlen'] at hk
   simp only [clrL,getElem_append]
   split
   ·rw [getElem_take];exact hlen k _
   ·rw [getElem_replicate];exact hcl
  ·rw [hlen'] at hk
   have hlt1:(us.take (lo*esz)).length=lo*esz:=by simp;omega
   by_cases hkl:k<lo
   ·have hel:(clrL xs lo (zq2 ie))[k]'(by rw [hlen'];exact hk)=xs[k]:=by
     simp only [clrL,getElem_append]
     rw [dif_pos (by simp;omega),getElem_take]
    rw [hel] at hj
    have hj':j<esz:=by rw [<-hlen k hk];exact hj
    have hlt2:k*esz+j<lo*esz:=by
     have:(k+1)*esz<=lo*esz:=Nat.mul_le_mul_right _ hkl
     rw [Nat.succ_mul] at this
     omega
    have e1:(us.take (lo*esz)++news).getD (k*esz+j) undef=us.getD (k*esz+j) undef:=by
     rw [getD_eq_getElem?_getD,getElem?_append_left (by omega),getElem?_take_of_lt hlt2,<-getD_eq_getElem?_getD]
    rw [e1]
    simp only [hel]
    exact (hr k hk j hj).mono hzz (fun b hS hlt=>⟨hoth b (hns b hS),Or.inl hS,fun e=>hns b hS (by injection e with e;exact e.symm)⟩)
   ·have hel:(clrL xs lo (zq2 ie))[k]'(by rw [hlen'];exact hk)=zq2 ie:=by
     simp only [clrL,getElem_append]
     rw [dif_neg (by simp;omega),getElem_replicate]
    rw [hel] at hj
    have hj':j<esz:=by rw [<-hcl];exact hj
    have hle:lo*esz<=k*esz:=Nat.mul_le_mul_right _ (by omega)
    have e1:(us.take (lo*esz)++news).getD (k*esz+j) undef=ie.zero.cells.getD j undef:=by
     rw [getD_eq_getElem?_getD,getElem?_append_right (by omega),hlt1,<-getD_eq_getElem?_getD,<-hnw]
     have:=y2t ie.zero.cells (xs.length-lo) (k-lo) j (by omega) (by omega)
     rw [<-this,hzs',Nat.sub_mul]
     congr 1
     omega
    rw [e1]
    simp only [hel,hzc,getElem_map]
    have hj2:j<ie.zero.cells.size:=by omega
    have:ie.zero.cells.getD j undef=ie.zero.cells[j]:=by simp [Array.getD,hj2]
    rw [this]
    simpa using zt2 _ _ _ (ie.zero.cells[j])
  ·rcases mem_append.1 hu with hu|hu
   ·exact hone u (mem_of_mem_take hu)
   ·exact hz1 u hu
 ·have hlx:lo=xs.length:=by omega
  have hex:(execOp a.eval o).run cx.P w=.ok (.value (.tuple #[])) w:=by
   obtain ⟨s,us,hd',hone1,hown,_⟩:=zuz (id:=id) hst hf
   have hsl:∃ A c,a.eval x=.slice A 0 c:=by
    rw [hev.der_inv hd']
    rcases hown.2 with ⟨hv,h0⟩|⟨g,cap,cur,hv,_⟩
    ·subst hv;exact ⟨none,0,rfl⟩
    ·subst hv;exact ⟨_,_,by show Value.slice _ (xs.length-lo) _=_;rw [hlx,Nat.sub_self]⟩
   obtain ⟨A,c,hsl⟩:=hsl
   simp only [execOp,ho,resolve,invoke,builtin,map_toArray,map_cons,map_nil,Builtin.clear_,hsl]
   cases A<;>simp [run_underlying hu,pure]
  rw [hex]
  have hid:clrL xs lo (zq2 ie)=xs:=by simp [clrL,hlx]
  rw [hid] at hK
  obtain ⟨s,us,hd',hone1,hown,hlen,hr,hone⟩:=zuz (id:=id) hst hf
  have hns:∀ b,Sg cx.S0 cx.w0.heap.size γ b->s.ownBlock≠some b:=fun b hS e=>by
   have hgo:own γ b:=own.mk (by rw [hd',e])
   rcases hS with ⟨_,h⟩|⟨_,h⟩
   ·have:=(hst.ge b hgo).1.1;omega
   ·exact h hgo
  exact hK _ _ (zv2 (v:=s) (us':=us) hst (fun _=>Nat.le_refl _) hd' (z9f hd) (World.grownBy.refl _ _) hown hlen (fun k hk j hj=>(hr k hk j hj).mono (Nat.le_refl _) (fun b hS _=>⟨rfl,Or.inl hS,hns b hS⟩)) hone (.tup #[] rfl (fun j hj=>absurd hj (by simp))))
end
section
variable {P:Program} {w:World} {S:Nat->Prop}
end
theorem con0 (x:Value)(vs:Array Value):(#[x]++vs).getD 0 undef=x:=by
 rw [Array.getD_eq_getD_getElem?,Array.getElem?_append_left (by simp)];rfl
theorem zt5 {w:World}{B ty sz n:Nat}{s:Value}{vs:List Value}(h:w.ownsRow B ty sz s n vs):s.ownBlock=zaw s/\zh1 s=[]:=by
 rcases h.2 with ⟨rfl,_⟩|⟨g,cap,cur,rfl,_⟩<;>exact ⟨rfl,rfl⟩
theorem ziz {s:Value}{b:Nat}(h:s.ownBlock=zaw s)(hn:zh1 s=[]):b∈blks (some (s.ownBlock,s)) ↔ zaw s=some b:=by
 simp [blks,hn,h]
section
variable {cx:Cx} {o:Oper} {σ:AS}
theorem yar {d d' id:Nat}{e e' e'':Ent}(he:lkE [(d,e),(d',e')] id=some e''):id∈[d,d']:=by
 simp only [lkE] at he
 cases hb:Nat.beq d id with
 |true=>simp [Nat.eq_of_beq_eq_true hb]
 |false =>
  rw [hb] at he
  cases hb2:Nat.beq d' id with
  |true=>simp [Nat.eq_of_beq_eq_true hb2]
  |false=>rw [hb2] at he;cases he
theorem zrs {d d':Nat}{e e':Ent}(hne:d≠d')(i:Nat):lkE [(d,e),(d',e')] i=if i=d then some e else if i=d' then some e' else none:=by
 simp only [lkE]
 by_cases h1:i=d
 ·subst h1;simp
 ·rw [if_neg h1]
  have:Nat.beq d i=false:=by cases hb:Nat.beq d i with|true=>exact absurd (Nat.eq_of_beq_eq_true hb).symm h1|false=>rfl
  rw [this]
  by_cases h2:i=d'
  ·subst h2;simp
  ·rw [if_neg h2]
   have:Nat.beq d' i=false:=by cases hb:Nat.beq d' i with|true=>exact absurd (Nat.eq_of_beq_eq_true hb).symm h2|false=>rfl
   rw [this]
theorem y7n (vs:Array Value)(x:Value)(p j:Nat)(hp:p<vs.size):(vs.setIfInBounds p x).getD j undef=if j=p then x else vs.getD j undef:=by
 simp only [Array.getD_eq_getD_getElem?,Array.getElem?_setIfInBounds]
 by_cases h:j=p
 ·subst h;rw [if_pos rfl,if_pos hp,if_pos rfl];rfl
 ·rw [if_neg h,if_neg (fun e=>h e.symm)]
theorem yl8 {w:World}{S:Nat->Prop}{B ty sz:Nat}{v:Value}{xs:List AV}(h:NRep w S B v (.row ty sz xs)):∃ us,w.ownsRow B ty sz v xs.length us:=by
 obtain ⟨_,us,h,_⟩:=h;exact ⟨us,h⟩
end
end Go.Proofs.YtidhlpjgifoneaaGreat
