/- The abstract walk. -/
import Derived.Test.YthbogefcfhmpgaaGreatK11
set_option linter.unusedVariables false
set_option linter.unusedSimpArgs false
namespace Go.Proofs.YthbogefcfhmpgaaGreat
open Go.RowKit List
open _root_.Array renaming getElem?_setIfInBounds->aA,length_toList->aN
open List renaming getD_eq_getElem?_getD->aB,getElem_map->aC,getElem_cons_zero->aE,length_map->aJ,length_set->aK,getElem?_map->aL,getElem?_eq_getElem->aO,getElem_replicate->aQ,getElem_eraseIdx->aS,getElem_set->aT,getElem_mem->aU
open Option.some renaming injEq->aD
open Nat renaming add_zero->aF,mul_one->aG,le_refl->aH,lt_of_lt_of_le->aP,zero_add->aX,beq_refl->bA
open AV renaming cells->aM,leafId->aW
open Or renaming inl->aY,inr->aZ
section
variable {cx:Cx} {o:Oper} {σ:AS}
variable {ty:Nat}
theorem LeX.arr {E:Env}{nt:Nat}{σ:AS}(r ety:Nat){m:Nat}(hr:σ.find r=some (.row ty 1 (replicate m .nils))):LeX E nt σ (σ.rpAll r Fa (.cont m r) (.are ty ((range m).map some) (replicate m (.row ety 1 [])))):=by
 refine LeX.rpAll r Fa (.cont m r) _ _ hr (fun ty cs h=>by cases h) (fun cx γ a w d hst hd he=>?_)
 obtain ⟨s,us,hde,hs1,hown,hlen,hre,hone⟩:=he
 subst hde
 obtain ⟨ob1,ob2⟩:=Rs hown
 rw [length_replicate] at hown
 have hul:us.length=m:=by have:=hown.1;omega
 have hnil:∀ k,k<m->us.getD k undef=.slice none 0 0:=fun k hk=>by
  have:=hre k (by simpa using hk) 0 (by simp [aM])
  simp only [aQ,aM,aE,aG,aF] at this
  exact this.nils_inv
 have hgd:∀ k,us.toArray.getD k undef=us.getD k undef:=fun k=>by simp [Array.getD_eq_getD_getElem?,aB]
 have hnb:∀ k b,Az (us.toArray.getD k undef)≠some b:=fun k b hb=>by
  rw [hgd] at hb
  by_cases hk:k<m
  ·rw [hnil k hk] at hb;simp [Az] at hb
  ·rw [aB,getElem?_eq_none (by omega)] at hb
   simp [undef,Az] at hb
 refine ⟨arnV s us.toArray,fun b hb=>?_,fun S' hS hS2=>⟨⟨s,us.toArray,us,rfl,hs1,by simp [hul],by rw [aJ,length_range];exact hown,hone,fun k hk=>?_,fun j hj=>?_,fun i j b hi=>absurd hi (hnb i b),fun i b _=>hnb i b⟩,fun γ' x v hγ' hsrc hx hv=>?_⟩⟩
 ·rcases mem_arnV.1 hb with h|⟨j,h⟩
  ·exact (V4 ob1 ob2).2 h
  ·exact absurd h (hnb j b)
 ·have hk':k<m:=by simpa using hk
  simp only [aC,getElem_range]
  refine ⟨(fun h=>by cases h),fun j hj=>?_⟩
  injection hj with hj
  subst hj
  exact ⟨by simpa using hk',(hgd k).symm⟩
 ·have hj':j<m:=by simpa using hj
  rw [aQ,hgd,hnil j hj']
  exact ⟨(by intro h;cases h),rfl,[],World.ownsRow_nil _ _ _ _,fun k hk=>absurd hk (by simp),fun k hk=>absurd hk (by simp),fun u hu=>by cases hu⟩
 ·have hx':x=.row r:=by
   cases x with
   |row i=>simp only [aW,aD] at hx;rw [hx]
   |_=>simp [Fa] at hsrc
  subst hx'
  have hvs:v=s:=hv.row_inv hd (Nt hs1)
  subst hvs
  refine .cont hγ' (fun g s' e=>?_) ?_
  ·injection e with e
   injection e with _ e
   subst e
   simp only [Dv.of,con0]
  ·rcases hown.2 with ⟨hv0,h0⟩|⟨g,cap,cur,hv0,_⟩
   ·exact ⟨none,0,by rw [hv0,h0],fun h=>by omega⟩
   ·exact ⟨_,cap,hv0,fun _=>⟨g,0,rfl⟩⟩
variable {id:Nat}{vs:Array Value}
theorem zoc {w:World}{S:Nat->Prop}{γ:Gam}{n:Nat}{v s:Value}(h:Rep w S γ (.cont n id) v)(hg:γ id=some (arnV s vs)):v=s/\∃ A c,s=.slice A n c:=by
 cases h with
 |cont h hv hl =>
  rw [hg] at h
  injection h with h
  have e:=hv none (.agg (#[s]++vs)) h.symm
  simp only [Dv.of,con0] at e
  obtain ⟨A,c,hq,_⟩:=hl
  exact ⟨e,A,c,by rw [<-e];exact hq⟩
variable {j ety:Nat}{os:List NE}{xs:List AV}
theorem zxd {γ:Gam}{w:World}{s v:Value}(hg:γ id=some (arnV s vs))(hnn:∀ j (h:j<os.length),os[j]≠.hole/\NRep w (Sg cx.S0 cx.w0.heap.size γ) cx.w0.heap.size (vs.getD j undef) os[j])(hv:Rep w (Sg cx.S0 cx.w0.heap.size γ) γ (.der (.obj j) id) v)(ho:os[j]? = some (.row ety 1 xs)) :
  v=vs.getD j undef/\j<os.length/\NRep w (Sg cx.S0 cx.w0.heap.size γ) cx.w0.heap.size (vs.getD j undef) (.row ety 1 xs):=by
 obtain ⟨hjl,hje⟩:=List.getElem?_eq_some_iff.1 ho
 have h:=(hnn j hjl).2
 rw [hje] at h
 exact ⟨by rw [(Yv hv hg).2];simp only [Dv.of,con1],hjl,h⟩
variable {x:Operand}{idx:List (Option Nat)}
theorem zbd {T e eb m:Nat}{y:Operand}{i:TyI}{k:IntKind}(ho:o.op=.indexAddr T x y)(hd:dok cx o=true)(hxo:A5 x=true)(hyo:A5 y=true)(hx:σ.eval x=.der (.obj j) id)(hy:σ.eval y=.int k (m:Int))(hT:lkT cx.E.tab T=some i)(hs:i.shape=.slc e 1 eb)
  (hl:σ.find id=some (.are ty idx os)) (hj:os[j]? = some (.row ety 1 xs)) (hm:m<xs.length):Ag cx o σ (.der (.oelt j m) id) [id] [] :=
 Ay hd fun τ γ a w h1 h2 hst=>by
  have ex:=hst.ev x hxo
  rw [h1 x (by simp [ho,Op.operands]),hx] at ex
  have ey:=hst.ev y hyo
  rw [h1 y (by simp [ho,Op.operands]),hy] at ey
  obtain ⟨s,vs,us,hg,hs1,hsz,hown,hone,hix,hnn,hdb⟩:=O6 hst (by rw [h2 id (by simp)];exact hl)
  obtain ⟨hv,hjl,hn1,ws,ho1,ho2,ho3,ho4⟩:=zxd hg hnn ex hj
  obtain ⟨hu,hce,_⟩:=Ce (cx.E.ok T i hT) hs
  rcases ho1.2 with ⟨_,h0⟩|⟨g,cap,cur,hsv,_⟩
  ·omega
  refine ⟨.pointer (some ⟨g,0+m,none⟩),?_,.der hg (fun g' s' e=>?_)⟩
  ·rw [hsv] at hv
   simp [execOp,ho,hv,ey.int_inv,Instr.indexAt,asIntOf,run_underlying hu,Ei hce (by omega:(1:Nat)≠0),hm,pure,Addr.add_lit]
  ·injection e with e
   injection e with _ e
   subst e
   exact ⟨by simp [Dv.ok];omega,by simp only [Dv.of,con1,hsv]⟩
theorem zlh {T k:Nat}{i:TyI}{el av:AV}(ho:o.op=.load T x)(hd:dok cx o=true)(hxo:A5 x=true)(hx:σ.eval x=.der (.oelt j k) id)(hT:lkT cx.E.tab T=some i)(ha:i.shape.agg=false)(hl:σ.find id=some (.are ty idx os))(hj:os[j]? = some (.row ety 1 xs))(he:xs[k]? = some el)(hc:el.cells[0]? = some av) :
  Ag cx o σ av [id] [] :=
 Ay hd fun τ γ a w h1 h2 hst=>by
  have ex:=hst.ev x hxo
  rw [h1 x (by simp [ho,Op.operands]),hx] at ex
  obtain ⟨s,vs,us,hg,hs1,hsz,hown,hone,hix,hnn,hdb⟩:=O6 hst (by rw [h2 id (by simp)];exact hl)
  obtain ⟨hok,hv⟩:=Yv ex hg
  obtain ⟨hjl,hje⟩:=List.getElem?_eq_some_iff.1 hj
  have hn:=(hnn j hjl).2
  rw [hje] at hn
  obtain ⟨hn1,ws,ho1,ho2,ho3,ho4⟩:=hn
  obtain ⟨hk,hek⟩:=List.getElem?_eq_some_iff.1 he
  obtain ⟨h0,hc0⟩:=List.getElem?_eq_some_iff.1 hc
  have hown1:=ho1
  rcases ho1.2 with ⟨_,h0⟩|⟨g,cap,cur,hsv,_⟩
  ·omega
  have hv:a.eval x=.pointer (some ⟨g,k,none⟩):=by rw [hv];simp only [Dv.of,con1,hsv,aX]
  have hrun:=Ra (cx.E.ok T i hT) ha w ⟨g,k,none⟩ _ (Ro hown1 (g:=g) (by rw [hsv];rfl) k (by omega))
  refine ⟨ws.getD k undef,by simp only [execOp,ho,hv,Instr.loadAt,Instr.sureAddr,Sem.run_bind,Sem.run_pure,Result.andThen_ok,hrun],?_⟩
  have:=ho3 k hk 0 (by rw [hek];exact h0)
  simp only [hek,hc0,aG,aF] at this
  exact this.open_
theorem zhv {T k:Nat}{y:Operand}{i:TyI}{av:AV}(ho:o.op=.store T x y)(hd:dok cx o=true)(hxo:A5 x=true)(hyo:A5 y=true)(hx:σ.eval x=.der (.oelt j k) id)(hy:σ.eval y=av)(hT:lkT cx.E.tab T=some i)(hi1:i.sz=1)(hl:σ.find id=some (.are ty idx os))(hj:os[j]? = some (.row ety 1 xs))(hk:k<xs.length)(hav:av.cells=[av])(hc:okc σ av=true)(hcl:av.closed=true) :
  Ag cx o σ (.tup []) (id::av.ids) [(id,.are ty idx (os.set j (.row ety 1 (xs.set k av))))]:=by
 refine ⟨fun id' e he=>mem_cons.2 (aY (by simpa using Co he)),fun τ h1 h2 a w Q K ⟨γ,hst⟩ hK=>Bu (fun c hc=>by rw [ho] at hc;cases hc) ?_⟩
 have ex:=hst.ev x hxo
 rw [h1 x (by simp [ho,Op.operands]),hx] at ex
 have ey:=hst.ev y hyo
 rw [h1 y (by simp [ho,Op.operands]),hy] at ey
 obtain ⟨s,vs,us,hgi,hs1,hsz,hown,hone,hix,hnn,hdb⟩:=O6 hst (by rw [h2 id (by simp)];exact hl)
 obtain ⟨hok,hv⟩:=Yv ex hgi
 obtain ⟨hjl,hje⟩:=List.getElem?_eq_some_iff.1 hj
 have hn:=(hnn j hjl).2
 rw [hje] at hn
 obtain ⟨hn1,ws,ho1,ho2,ho3,ho4⟩:=hn
 have hwl:ws.length=xs.length*1:=ho1.1
 rcases ho1.2 with ⟨_,h0⟩|⟨g,cap,cur,hsv,hbase,hh,hncap,hmx,hcs,htk⟩
 ·omega
 have hv:a.eval x=.pointer (some ⟨g,k,none⟩):=by rw [hv];simp only [Dv.of,con1,hsv,aX]
 obtain ⟨c1,c2,c3⟩:=Uy hst ey hc (fun id hid=>h2 id (by simp [hid]))
 rw [hav] at c1
 obtain ⟨u,hu⟩:∃ u,(a.eval y).cells=#[u]:=Array.size_eq_one_iff.1 (by simpa using c1)
 have hu1:u.oneCell'=true:=by
  have:=c3 0 (by simp [hu])
  rw [hu] at this
  simpa using this
 have hur:Rep w (Sg cx.S0 cx.w0.heap.size γ) G0 av u:=by
  have h0:0<av.cells.length:=by simp [hav]
  have:=c2 0 h0
  rw [hu] at this
  simp only [hav,aE] at this
  exact Rep.close (by simpa using this) hcl
 have hrun:=Ue (cx.E.ok T i hT) w g k ety cur (a.eval y) hh (by rw [hu,hi1];rfl) (by rw [hi1];omega) (fun v hv=>by
  rw [hu] at hv
  have:v=u:=by simpa using hv
  rw [this];exact hu1)
 rw [hu,hi1] at hrun
 generalize hcur':(cur.toList.take k++(#[u]:Array Value).toList++cur.toList.drop (k+1)).toArray=cur' at hrun
 have hex:(execOp a.eval o).run cx.P w=.ok .skip (w.setRow g cur'):=by
  simp only [execOp,ho,hv,Instr.storeAt,Instr.sureAddr,Sem.run_bind,Sem.run_pure,Result.andThen_ok,hrun]
 unfold Oper.wp
 rw [hex]
 have hgb:g∈blks (arnV s vs):=mem_arnV.2 (aZ ⟨j,by rw [hsv];rfl⟩)
 have hgo:own γ g:=⟨id,_,hgi,hgb⟩
 have hgl:=hst.ge g hgo
 have hns:∀ b,Sg cx.S0 cx.w0.heap.size γ b->b≠g:=fun b hS e=>by
  subst e
  rcases hS with ⟨_,h⟩|⟨_,h⟩
  ·have:=hgl.1.1;omega
  ·exact h hgo
 have hblk:=setRow_heap w g cur cur' ety (0,0) hh
 have hoth:∀ q,q≠g->(w.setRow g cur').heap[q]? = w.heap[q]? := fun q hq=>setRow_other w g q _ hq
 have hz':w.heap.size<=(w.setRow g cur').heap.size:=by simp
 have hdr:w.drawn<=(w.setRow g cur').drawn:=aH _
 have hbel:Below cx.w0.heap.size w (w.setRow g cur'):=⟨rfl,rfl,rfl,hz',fun k hk=>hoth k (by have:=hgl.1.1;omega)⟩
 generalize w.setRow g cur'=w' at *
 refine hK _ _ ⟨γ,hst.step (Bm hd) hz' (fun b hS hlt=>⟨hoth b (hns b hS),hS⟩) (fun id d h=>aY h) (fun id' hid'=>⟨rfl,fun g' s hg' hmb=>hoth g' ?_⟩) (fun id' e' he'=>?_) hst.inj (fun b hbo=>⟨(hst.ge b hbo).1,aP (hst.ge b hbo).2 hz'⟩) (hst.below.trans hbel) (.tup #[] rfl (fun j hj=>absurd hj (by simp))) (fun b hno hlt=>⟨hoth b (fun e=>hno (e▸hgo)),hno⟩) (fun _=>hdr)⟩
 ·rintro rfl
  have:=hst.inj _ _ _ _ _ hg' hgi hmb hgb
  subst this
  simp [lkE] at hid'
 ·have hid:id'=id:=by have:=Co he';simpa using this
  subst hid
  simp only [lkE,bA,aD] at he'
  subst he'
  refine ⟨_,hgi,s,vs,us,rfl,hs1,by rw [aK];exact hsz,hown.moved (fun b hb=>hoth b (fun e=>hdb.2 j b hb (by rw [hsv,e];rfl))),hone,fun k hk=>⟨fun h=>((hix k hk).1 h).mono hz' (fun b hS hlt=>⟨hoth b (hns b hS),hS⟩),fun j' hj'=>by rw [aK];exact (hix k hk).2 j' hj'⟩,fun j' h'=>?_,hdb⟩
  have h'':j' < os.length:=by simpa using h'
  simp only [aT]
  by_cases hjj:j=j'
  ·subst hjj
   rw [if_pos rfl]
   have hws':cur'.toList.take (xs.length*1)=ws.set k u:=by
    rw [<-hcur',<-htk,set_eq_take_append_cons_drop,if_pos (by simp;omega)]
    have:=Y3 cur.toList [u] k (xs.length*1) (by simp;omega) (by simp;omega)
    simpa using this
   refine ⟨(by intro h;cases h),hn1,ws.set k u,⟨by simp [hwl],aZ ⟨g,cap,cur',by rw [aK];exact hsv,hbase,hblk,by simpa using hncap,hmx,?_,by simpa using hws'⟩⟩,fun q hq=>?_,fun q hq p hp=>?_,fun v hv=>?_⟩
   ·rw [<-hcur']
    have:=Uq cur.toList [u] k (by simp;omega)
    simpa [hcs] using this
   ·rw [aK] at hq
    rw [aT]
    by_cases hkq:k=q
    ·rw [if_pos hkq,hav];rfl
    ·rw [if_neg hkq];exact ho2 q hq
   ·rw [aK] at hq
    have e0:(xs.set k av)[q]=if k=q then av else xs[q]:=aT ..
    have hp0:p=0:=by
     have hl1:((xs.set k av)[q]'(by simpa using hq)).cells.length=1:=by
      rw [e0]
      by_cases hkq:k=q
      ·rw [if_pos hkq,hav];rfl
      ·rw [if_neg hkq];exact ho2 q hq
     omega
    subst hp0
    simp only [aG,aF]
    by_cases hkq:k=q
    ·subst hkq
     have e1:(ws.set k u).getD k undef=u:=by rw [aB,getElem?_set_self (by omega)];rfl
     rw [e1]
     simp only [getElem_set_self,hav,aE]
     exact hur.mono hz' (fun b hS hlt=>⟨hoth b (hns b hS),hS⟩)
    ·have e1:(ws.set k u).getD q undef=ws.getD q undef:=by rw [aB,getElem?_set_ne hkq,<-aB]
     rw [e1]
     have h3:=ho3 q hq 0 (by rw [ho2 q hq];exact Nat.zero_lt_one)
     simp only [aG,aF] at h3
     simp only [List.getElem_set_ne hkq]
     exact h3.mono hz' (fun b hS hlt=>⟨hoth b (hns b hS),hS⟩)
   ·rcases mem_or_eq_of_mem_set hv with hv|hv
    ·exact ho4 v hv
    ·rw [hv];exact hu1
  ·rw [if_neg hjj]
   exact ⟨(hnn j' h'').1,(hnn j' h'').2.moved hz' (fun b hS hlt=>⟨hoth b (hns b hS),hS⟩) (fun b hb=>hoth b (fun e=>hjj (hdb.1 j j' b (by rw [hsv,e];rfl) hb)))⟩
end
variable {α β:Type}
def enQ (ev:α->AV)(ety:Nat)(l:List α):NE:=.row ety 1 (l.map ev)
def frq (r:Nat)(m:Ars α)(x:Option β):Option β:=if m.1.all (·.isSome) then x else none
def aix (m:Ars (List α))(j:Nat)(n:Int)(c:Nat->Option β):Option β:=match m.2[j]? with|some l=>(if 0<=n/\n.toNat<l.length then c n.toNat else none)|none=>none
def ald (m:Ars (List α))(j k:Nat)(c:α->Option β):Option β:=match m.2[j]? with|some l=>(match l[k]? with|some v=>c v|none=>none)|none=>none
def asr (m:Ars (List α))(j k:Nat)(v:α)(c:Ars (List α)->Option β):Option β:=match m.2[j]? with|some l=>(if k<l.length then c (m.1,m.2.set j (l.set k v)) else none)|none=>none
section
variable {E:Env} {nt:Nat} {o:Oper} {σ:AS} {K:AV->List Nat->List (Nat×Ent)->Prop}
variable {m:Ars (List α)}{id ty ety:Nat}{x:Operand}
theorem OpX.aix {j:Nat}{n:Int}{c:Nat->Option β}{r:β}(ev:α->AV){T e eb:Nat}{y:Operand}{i:TyI}{kd:IntKind}(hF:Proofs.YthbogefcfhmpgaaGreat.aix m j n c=some r)(ho:o.op=.indexAddr T x y)(hd:dokN E nt o.dst=true)(hxo:A5 x=true)(hyo:A5 y=true)(hx:σ.eval x=.der (.obj j) id)(hy:σ.eval y=.int kd n)(hT:lkT E.tab T=some i)(hs:i.shape=.slc e 1 eb)
  (hl:σ.find id=some (.are ty m.1 (m.2.map (enQ ev ety)))) (hk:∀ k,c k=some r->K (.der (.oelt j k) id) [id] []):OpX E nt o σ K:=by
 unfold Proofs.YthbogefcfhmpgaaGreat.aix at hF
 split at hF
 ·rename_i l hj
  split at hF
  ·rename_i hc
   have hy':σ.eval y=.int kd ((n.toNat:Nat):Int):=by rw [hy,Int.toNat_of_nonneg hc.1]
   exact .mk _ _ _ (fun cx hE hnt=>zbd ho (Ak hd hE hnt) hxo hyo hx hy' (by rw [hE];exact hT) hs hl (by rw [aL,hj];rfl) (by simpa using hc.2)) (hk _ hF)
  ·cases hF
 ·cases hF
theorem OpX.ald {j k:Nat}{c:α->Option β}{r:β}(ev:α->AV){T:Nat}{i:TyI}(hF:Proofs.YthbogefcfhmpgaaGreat.ald m j k c=some r)(ho:o.op=.load T x)(hd:dokN E nt o.dst=true)(hxo:A5 x=true)(hx:σ.eval x=.der (.oelt j k) id)(hT:lkT E.tab T=some i)(ha:i.shape.agg=false)(hl:σ.find id=some (.are ty m.1 (m.2.map (enQ ev ety))))(hev:∀ v,(ev v).cells[0]? = some (ev v))
  (hk:∀ v,c v=some r->K (ev v) [id] []):OpX E nt o σ K:=by
 unfold Proofs.YthbogefcfhmpgaaGreat.ald at hF
 split at hF
 ·rename_i l hj
  split at hF
  ·rename_i v hv
   exact .mk _ _ _ (fun cx hE hnt=>zlh ho (Ak hd hE hnt) hxo hx (by rw [hE];exact hT) ha hl (by rw [aL,hj];rfl) (by rw [aL,hv];rfl) (hev v)) (hk _ hF)
  ·cases hF
 ·cases hF
theorem OpX.asr {j k:Nat}{v:α}{c:Ars (List α)->Option β}{r:β}(ev:α->AV){T:Nat}{y:Operand}{i:TyI}(hF:Proofs.YthbogefcfhmpgaaGreat.asr m j k v c=some r)(ho:o.op=.store T x y)(hd:dokN E nt o.dst=true)(hxo:A5 x=true)(hyo:A5 y=true)(hx:σ.eval x=.der (.oelt j k) id)(hy:σ.eval y=ev v)(hT:lkT E.tab T=some i)(hi1:i.sz=1)
  (hl:σ.find id=some (.are ty m.1 (m.2.map (enQ ev ety)))) (hav:(ev v).cells=[ev v]) (hids:(ev v).ids=[]) (hc:okc σ (ev v)=true) (hcl:(ev v).closed=true) (hk:∀ m',c m'=some r->K (.tup []) [id] [(id,.are ty m'.1 (m'.2.map (enQ ev ety)))]):OpX E nt o σ K:=by
 unfold Proofs.YthbogefcfhmpgaaGreat.asr at hF
 split at hF
 ·rename_i l hj
  split at hF
  ·rename_i hlt
   have h:=hk _ hF
   refine .mk _ _ _ (fun cx hE hnt=>zhv (xs:=l.map ev) (av:=ev v) ho (Ak hd hE hnt) hxo hyo hx hy (by rw [hE];exact hT) hi1 hl (by rw [aL,hj];rfl) (by simpa using hlt) hav hc hcl) ?_
   rw [hids]
   simp only [map_set,enQ] at h
   exact h
  ·cases hF
 ·cases hF
theorem LeX.frq (hall:m.1.all (·.isSome)=true)(r:Nat)(ev:α->AV)(hr:σ.find r=some (.are ty m.1 (m.2.map (enQ ev ety)))):LeX E nt σ (σ.rpAll r Kt (.sl 1 ((aval m).map fun q=>.sl 1 (q.map ev))) .dead):=by
 refine LeX.rpAll r Kt _ _ _ hr (fun ty cs h=>by cases h) (fun cx γ a w d hst hd he=>?_)
 obtain ⟨s,vs,us,hde,hs1,hsz,hown,hone,hix,hnn,hdb⟩:=he
 have hde:d=arnV s vs:=hde
 subst hde
 rw [aJ] at hsz
 refine ⟨none,(fun b hb=>by cases hb),fun S' hS hS2=>⟨rfl,fun γ' x v hγ' hsrc hx hv=>?_⟩⟩
 have hx':∃ n,x=.cont n r:=by
  cases x with
  |cont n i=>simp only [aW,aD] at hx;exact ⟨n,by rw [hx]⟩
  |_=>simp [Kt] at hsrc
 obtain ⟨n,rfl⟩:=hx'
 have hvs:v=s:=(zoc hv hd).1
 subst hvs
 have hel:∀ k (hk:k<(aval m).length),Rep w S' G0 (.sl 1 ((aval m)[k].map ev)) (us.getD k undef):=fun k hk=>by
  have hk':k<m.1.length:=by simpa [aval] using hk
  obtain ⟨q1,q2⟩:=hix k hk'
  have hsome:=all_eq_true.1 hall _ (aU hk')
  simp only [aval,aC]
  cases hc:m.1[k] with
  |none=>rw [hc] at hsome;cases hsome
  |some j =>
   obtain ⟨q3,q4⟩:=q2 j hc
   have q3':j<m.2.length:=by simpa using q3
   rw [q4]
   simp only [aO q3',Option.getD_some]
   have h2:=(hnn j q3).2
   simp only [aC,enQ] at h2
   obtain ⟨p1,us',p2,p3,p4,p5⟩:=h2
   obtain ⟨ob1,ob2⟩:=Rs p2
   obtain ⟨s',hs1',hs2'⟩:=H0 (w:=w) (S:=Sg cx.S0 cx.w0.heap.size γ) (γ:=γ) (S':=S') (d:=some ((vs.getD j undef).ownBlock,vs.getD j undef)) ⟨_,us',rfl,p1,p2,p3,p4,p5⟩ (fun b hb _=>hS b hb) (fun s g' e=>by
    injection e with e
    injection e with e1 e2
    rw [ob1] at e1
    exact hS2 g' (mem_arnV.2 (aZ ⟨j,e1⟩)) (fun hb=>by cases hb)) G0
   injection hs1' with hs1'
   injection hs1' with _ hs1'
   rw [hs1']
   exact hs2'
 obtain ⟨s0,hs0,hr0⟩:=H0 (w:=w) (S:=S') (γ:=γ) (S':=S') (B:=cx.w0.heap.size) (ty:=ty) (sz:=1) (xs:=(aval m).map fun q=>.sl 1 (q.map ev)) (d:=some (v.ownBlock,v)) ⟨v,us,rfl,hs1,by rw [aJ];simpa [aval] using hown,fun k hk=>by rw [aC];rfl,fun k hk j hj=>by
   have hk':k<(aval m).length:=by simpa using hk
   have hj0:j=0:=by
    have:j<1:=by simpa [aM] using hj
    omega
   subst hj0
   simp only [aC,aM,aE,aG,aF]
   exact hel k hk',hone⟩ (fun b hb _=>hb) (fun s g' e=>by
   injection e with e
   injection e with e1 e2
   rw [(Rs hown).1] at e1
   exact hS2 g' (mem_arnV.2 (aY e1)) (fun hb=>by cases hb)) γ'
 injection hs0 with hs0
 injection hs0 with _ hs0
 rw [hs0]
 exact hr0
end
section
variable {E:Env} {nt:Nat} {R:Exit->AS->Prop} {K:List Ba}
theorem AW.frqO {id ty ety:Nat}{m:Ars (List α)}{c:Code}{σ:AS}{x:Option β}{y:β}(ev:α->AV)(h:Proofs.YthbogefcfhmpgaaGreat.frq id m x=some y)(r:Nat)(hr:σ.find r=some (.are ty m.1 (m.2.map (enQ ev ety))))(k:x=some y->AW E nt R (.code c::K) .normal (σ.rpAll r Kt (.sl 1 ((aval m).map fun q=>.sl 1 (q.map ev))) .dead)):AW E nt R (.code c::K) .normal σ:=by
 unfold Proofs.YthbogefcfhmpgaaGreat.frq at h
 split at h
 ·rename_i ha
  exact AW.weaken (LeX.frq ha r ev hr) (k h)
 ·cases h
end
attribute [irreducible]  frq  aix ald asr
section
variable {α β κ ν:Type} {E:Env} {nt:Nat}
variable {m:Ars (List (κ×ν))}
theorem LeX.fro {σ:AS}(r:Nat)(ek:κ->AV)(ev:ν->AV){ty:Nat}(hr:σ.find r=some (.are ty m.1 (m.2.map (enO ek ev)))):LeX E nt σ (σ.rpAll r Kt (.row r) (.row ty 1 ((aval m).map fun q=>.mapv (q.map (encM ek ev))))):=by
 refine LeX.rpAll r Kt _ _ _ hr (fun ty cs h=>by cases h) (fun cx γ a w d hst hd he=>?_)
 obtain ⟨s,vs,us,hde,hs1,hsz,hown,hone,hix,hnn,hdb⟩:=he
 have hde:d=arnV s vs:=hde
 subst hde
 rw [aJ] at hsz
 obtain ⟨ob1,ob2⟩:=Rs hown
 refine ⟨some (s.ownBlock,s),(fun b hb=>mem_arnV.2 (aY ((V4 ob1 ob2).1 hb))),fun S' hS hS2=>⟨⟨s,us,rfl,hs1,by rw [aJ];simpa [aval] using hown,fun k hk=>by rw [aC];rfl,fun k hk j hj=>?_,hone⟩,fun γ' x v hγ' hsrc hx hv=>?_⟩⟩
 ·have hk':k<(aval m).length:=by simpa using hk
  have hj0:j=0:=by
   have:j<1:=by simpa [aM] using hj
   omega
  subst hj0
  simp only [aC,aM,aE,aG,aF]
  have hk':k<m.1.length:=by simpa [aval] using hk'
  obtain ⟨q1,q2⟩:=hix k hk'
  simp only [aval,aC]
  cases hc:m.1[k] with
  |none=>exact (q1 hc).mono (aH _) (fun b hb _=>⟨rfl,hS b hb⟩)
  |some j =>
   obtain ⟨q3,q4⟩:=q2 j hc
   have q3':j<m.2.length:=by simpa using q3
   rw [q4]
   simp only [aO q3',Option.getD_some]
   have h2:=(hnn j q3).2
   simp only [aC,enO] at h2
   obtain ⟨g,ps0,e1,⟨es,clock,e2,e3,e4,e5⟩,e6⟩:=h2
   rw [e1]
   have hg:S' g:=hS2 g (mem_arnV.2 (aZ ⟨j,by rw [e1];rfl⟩)) (fun hb=>hdb.2 j g ((V4 ob1 ob2).1 hb) (by rw [e1];rfl))
   exact .mapv ps0 e6 g es clock e4 hg (Array.getElem?_eq_some_iff.1 e2).1 e2 e3 (fun j q q'=>(e5 j q q').1.mono (aH _) (fun b hb hl=>⟨rfl,hS b hb⟩)) (fun j q q'=>(e5 j q q').2.mono (aH _) (fun b hb hl=>⟨rfl,hS b hb⟩))
 ·have hx':∃ n,x=.cont n r:=by
   cases x with
   |cont n i=>simp only [aW,aD] at hx;exact ⟨n,by rw [hx]⟩
   |_=>simp [Kt] at hsrc
  obtain ⟨n,rfl⟩:=hx'
  have hvs:v=s:=(zoc hv hd).1
  subst hvs
  exact .row hγ' (fun g s' e _=>by injection e with e;injection e with _ e)
def fro (r:Nat)(x:Option β):Option β:=x
theorem AW.froO {R:Exit->AS->Prop}{K:List Ba}{id ty:Nat}{c:Code}{σ:AS}{x:Option β}{y:β}(ek:κ->AV)(ev:ν->AV)(h:fro id x=some y)(r:Nat)(hr:σ.find r=some (.are ty m.1 (m.2.map (enO ek ev))))(k:x=some y->AW E nt R (.code c::K) .normal (σ.rpAll r Kt (.row r) (.row ty 1 ((aval m).map fun q=>.mapv (q.map (encM ek ev)))))):AW E nt R (.code c::K) .normal σ:=AW.weaken (LeX.fro r ek ev hr) (k h)
end
def nlA (sz:Nat):List AV->AV
 |[]=>.nils
 |x::r=>.sl sz (x::r)
variable {P:Program}{w:World}{T:TypeId}
theorem zv1 {e:TypeId}(hu:P.underlying T=some (.slice e))(d:Nat)(A:Option Addr)(n c:Nat):(Op.equalIn (d+1) T (.slice A n c) (.slice none 0 0)).run P w=.ok A.isNone w:=by
 unfold Op.equalIn
 cases A<;>simp [run_underlying hu,Result.andThen,pure]
theorem zw6 {e:TypeId}(hu:P.underlying T=some (.slice e))(A:Option Addr)(n c:Nat):(Op.equal T (.slice A n c) (.slice none 0 0)).run P w=.ok A.isNone w:=zv1 hu 9999 A n c
section
variable {cx:Cx} {o:Oper} {σ:AS}
theorem zz0 {op:BinOp}{T t2 sz e eb z:Nat}{x y:Operand}{i:TyI}{l:List AV}(hop:op=.eql\/op=.neq)(ho:o.op=.binOp op T x y t2)(hd:dok cx o=true)(hxo:A5 x=true)(hyo:A5 y=true)(hx:σ.eval x=nlA sz l)(hy:σ.eval y=.nils)(hT:lkT cx.E.tab T=some i)(hs:i.shape=.slc e z eb) :
  Ag cx o σ (.bool (match op with|.eql=>l.isEmpty|_=>!l.isEmpty)) [] [] :=
 Ay hd fun τ γ ac w h1 _ hst=>by
  have e1:=hst.ev x hxo
  rw [h1 x (by simp [ho,Op.operands]),hx] at e1
  have e2:=hst.ev y hyo
  rw [h1 y (by simp [ho,Op.operands]),hy] at e2
  have e2:=e2.nils_inv
  obtain ⟨hu,_⟩:=Ce (cx.E.ok T i hT) hs
  cases l with
  |nil =>
   have e1:=Rep.nils_inv (show Rep w (Sg cx.S0 cx.w0.heap.size γ) γ .nils _ from e1)
   have hrun:=zw6 (w:=w) hu none 0 0
   rcases hop with rfl|rfl
   ·exact ⟨.bool true,by simp [execOp,ho,e1,e2,Sem.run_bind,eqGuard,binOp,hrun,Result.andThen,pure],.bool _⟩
   ·exact ⟨.bool false,by simp [execOp,ho,e1,e2,Sem.run_bind,eqGuard,binOp,hrun,Result.andThen,pure],.bool _⟩
  |cons a r =>
   obtain ⟨A,c,hv,_,_,cell,hb,_⟩:=Rep.sl_inv (show Rep w (Sg cx.S0 cx.w0.heap.size γ) γ (.sl sz (a::r)) _ from e1)
   obtain ⟨b,off,hA,_⟩:=hb (by simp)
   subst hA
   generalize (a::r).length=n at hv
   have hrun:=zw6 (w:=w) hu (some ⟨b,off,none⟩) n c
   rcases hop with rfl|rfl
   ·exact ⟨.bool false,by simp [execOp,ho,hv,e2,Sem.run_bind,eqGuard,binOp,hrun,Result.andThen,pure],.bool _⟩
   ·exact ⟨.bool true,by simp [execOp,ho,hv,e2,Sem.run_bind,eqGuard,binOp,hrun,Result.andThen,pure],.bool _⟩
def delK (r:Option Nat)(ps:List (AV×AV)):List (AV×AV):=match r with|some j=>ps.eraseIdx j|none=>ps
variable {ts:Array TypeId}{ps:List (AV×AV)}
theorem zpb {S:Nat->Prop}{kt et u:TypeId}{k:AV}{vk:Value}{g:Nat}{r:Option Nat}(hts:ts[0]? = some T)(hT:P.underlying T=some (.map kt et))(ht:Bc P kt k=true)(hk:Rep w S G0 k vk)(hm:D4 w S g ps)
  (hf:Be k (ps.map (·.1)) 0=some r) (hg:¬S g):∃ ob,(Builtin.delete_ ts u #[.map (some g),vk]).run P w=.ok (.tuple #[]) { w with heap:=w.heap.setIfInBounds g ob }/\D4 { w with heap:=w.heap.setIfInBounds g ob } S g (delK r ps):=by
 obtain ⟨es,clock,hb,hl,hbn,he⟩:=hm
 have hlt:g<w.heap.size:=by
  rcases Nat.lt_or_ge g w.heap.size with h|h
  ·exact h
  ·rw [Array.getElem?_eq_none h] at hb;cases hb
 obtain ⟨f1,f2⟩:=X9 ht hk es.toList ps r (by simpa using hl) he hf
 have mv:∀ (ob:Obj) {a:AV} {v:Value},Rep w S G0 a v->Rep { w with heap:=w.heap.setIfInBounds g ob } S G0 a v:=fun ob a v h =>
  h.mono (by simp) (fun b hS hb=>⟨by
   have:b≠g:=fun e=>hg (e▸hS)
   simp [aA,Ne.symm this],hS⟩)
 cases r with
 |none =>
  refine ⟨.map es clock,?_,es,clock,by simp [aA,hlt],by simpa [delK] using hl,hbn,fun j h h'=>⟨mv _ (he j h h').1,mv _ (he j h h').2⟩⟩
  simp [Builtin.delete_,hts,run_underlying hT,MapKept.run_getObj_map hb,Od _ ht hk,f1,MapKept.run_setObj_map _ hb,Result.andThen,pure]
 |some j =>
  have hj:=f2 j rfl
  have hje:j<es.size:=by simpa using hj
  have htl:(es.eraseIdxIfInBounds j).toList=es.toList.eraseIdx j:=by simp
  refine ⟨.map (es.eraseIdxIfInBounds j) clock,?_,es.eraseIdxIfInBounds j,clock,by simp [aA,hlt],?_,⟨?_,fun e h=>hbn.2 e ?_⟩,fun i h h'=>?_⟩
  ·simp [Builtin.delete_,hts,run_underlying hT,MapKept.run_getObj_map hb,Od _ ht hk,f1,MapKept.run_setObj_map _ hb,Result.andThen,pure]
  ·have h1:(es.eraseIdxIfInBounds j).size=(es.eraseIdxIfInBounds j).toList.length:=(aN).symm
   rw [h1,htl]
   simp only [delK,List.length_eraseIdx,aN]
   rw [hl]
  ·rw [htl]
   exact List.Nodup.sublist ((List.eraseIdx_sublist _ _).map _) hbn.1
  ·rw [htl] at h
   exact mem_of_mem_eraseIdx h
  ·simp only [htl,delK] at h h' ⊢
   rw [aS,aS]
   split
   ·exact ⟨mv _ (he i _ _).1,mv _ (he i _ _).2⟩
   ·exact ⟨mv _ (he (i+1) _ _).1,mv _ (he (i+1) _ _).2⟩
theorem ztx {T kt et id:Nat}{x y:Operand}{i:TyI}{k:AV}{ps':List (AV×AV)}{r:Option Nat}(ho:o.op=.call { callee:=.builtin .delete,args:=#[x,y],argTypes:=ts })(hts:ts[0]? = some T)(hd:dok cx o=true)(hxo:A5 x=true)(hyo:A5 y=true)(hx:σ.eval x=.row id)(hy:σ.eval y=k)(hl:σ.find id=some (.mp ps))
  (hT:lkT cx.E.tab T=some i) (hs:i.shape=.map kt et) (hk:Bc cx.P kt k=true) (hf:Be k (ps.map (·.1)) 0=some r) (hps:delK r ps=ps'):Ag cx o σ (.tup []) [id] [(id,.mp ps')]:=by
 refine ⟨fun id e he=>Co he,fun τ h1 h2 a w Q K ⟨γ,hst⟩ hK=>Bu (fun c hc=>by rw [ho] at hc;cases hc) ?_⟩
 have ex:=hst.ev x hxo
 rw [h1 x (by simp [ho,Op.operands,Call.operands]),hx] at ex
 have ey:=hst.ev y hyo
 rw [h1 y (by simp [ho,Op.operands,Call.operands]),hy] at ey
 obtain ⟨g,hg,hv,hm⟩:=Rz hst (by rw [h2 id (by simp)];exact hl) ex
 have hgo:own γ g:=own.mk hg
 have hgl:=hst.ge g hgo
 have hns:∀ b,Sg cx.S0 cx.w0.heap.size γ b->b≠g:=fun b hS e=>by
  subst e
  rcases hS with ⟨_,h⟩|⟨_,h⟩
  ·have:=hgl.1.1;omega
  ·exact h hgo
 obtain ⟨ob,hrun,hm'⟩:=zpb (u:=o.type) hts (Gv (cx.E.ok T i hT) hs) hk (ey.flat (Rm hk)) hm hf (fun hS=>hns g hS rfl)
 have hex:(execOp a.eval o).run cx.P w=.ok (.value (.tuple #[])) { w with heap:=w.heap.setIfInBounds g ob }:=by
  simp [execOp,ho,resolve,invoke,builtin,hv,hrun,Result.andThen,pure]
 unfold Oper.wp
 rw [hex]
 have hoth:∀ k,k≠g->({ w with heap:=w.heap.setIfInBounds g ob }:World).heap[k]? = w.heap[k]? := fun k hk=>by simp [aA,Ne.symm hk]
 have hz':w.heap.size<=({ w with heap:=w.heap.setIfInBounds g ob }:World).heap.size:=by simp
 have hdr:w.drawn<=({ w with heap:=w.heap.setIfInBounds g ob }:World).drawn:=aH _
 have hbel:Below cx.w0.heap.size w ({ w with heap:=w.heap.setIfInBounds g ob }:World):=⟨rfl,rfl,rfl,hz',fun k hk=>hoth k (by have:=hgl.1.1;omega)⟩
 generalize ({ w with heap:=w.heap.setIfInBounds g ob }:World)=w' at *
 refine hK _ _ ⟨γ,hst.step (Bm hd) hz' (fun b hS hlt=>⟨hoth b (hns b hS),hS⟩) (fun id d h=>aY h) (fun id' hid'=>⟨rfl,fun g' s hg' hmb=>hoth g' ?_⟩) (fun id' e' he'=>?_) hst.inj (fun b hbo=>⟨(hst.ge b hbo).1,aP (hst.ge b hbo).2 hz'⟩) (hst.below.trans hbel) (.tup #[] rfl (fun j hj=>absurd hj (by simp))) (fun b hno hlt=>⟨hoth b (fun e=>hno (e▸hgo)),hno⟩) (fun _=>hdr)⟩
 ·rintro rfl
  have:=hst.inj _ _ _ _ _ hg' hg hmb Bh
  subst this
  simp [lkE] at hid'
 ·have hid:id'=id:=by have:=Co he';simpa using this
  subst hid
  simp only [lkE,bA,aD] at he'
  subst he'
  rw [hps] at hm'
  exact ⟨_,hg,g,rfl,hm'⟩
end
variable {κ ν:Type}
def mdl [DecidableEq κ]:List (κ×ν)->κ->List (κ×ν)
 |[],_=>[]
 |(a,v)::r,k=>if k=a then r else (a,v)::mdl r k
def mde {β:Type}[DecidableEq κ](l:List (κ×ν))(k:κ)(c:List (κ×ν)->Option β):Option β:=c (mdl l k)
theorem zje [DecidableEq κ](ek:κ->AV)(ev:ν->AV)(he:∀ a b,eqK (ek a) (ek b)=some (decide (a=b)))(k:κ):∀ (l:List (κ×ν)) (i:Nat),
  ∃ r,Be (ek k) ((l.map (encM ek ev)).map (·.1)) i=some r/\(∀ j,r=some j->i<=j)/\delK (r.map (· - i)) (l.map (encM ek ev))=(mdl l k).map (encM ek ev)
 |[],i=>⟨none,rfl,(fun j h=>by cases h),rfl⟩
 |(a,v)::r,i=>by
  simp only [map_cons,encM,Be,he,mdl]
  by_cases hk:k=a
  ·subst hk
   simp only [decide_true]
   exact ⟨some i,rfl,fun j hj=>by injection hj with hj;omega,by simp [delK]⟩
  ·rw [decide_eq_false hk]
   obtain ⟨q,h1,h2,h3⟩:=zje ek ev he k r (i+1)
   refine ⟨q,h1,fun j hj=>by have:=h2 j hj;omega,?_⟩
   rw [if_neg hk]
   cases q with
   |none=>simpa [delK,encM] using h3
   |some j =>
    have g1:=h2 j rfl
    simp only [Option.map_some,delK] at h3 ⊢
    rw [show j-i=(j-(i+1))+1 by omega,eraseIdx_cons_succ,h3]
    rfl
section
variable {α β κ ν:Type} {E:Env} {nt:Nat} {o:Oper} {σ:AS} {K:OpK}
theorem OpX.mde [DecidableEq κ]{l:List (κ×ν)}{k:κ}{c:List (κ×ν)->Option β}{r:β}{T kt et id:Nat}{ts:Array TypeId}{x y:Operand}{i:TyI}(ek:κ->AV)(ev:ν->AV)(hF:Proofs.YthbogefcfhmpgaaGreat.mde l k c=some r)(heq:∀ a b,eqK (ek a) (ek b)=some (decide (a=b)))(ho:o.op=.call { callee:=.builtin .delete,args:=#[x,y],argTypes:=ts })(hts:ts[0]? = some T)(hd:dokN E nt o.dst=true)(hxo:A5 x=true)(hyo:A5 y=true)(hx:σ.eval x=.row id)(hy:σ.eval y=ek k)
  (hT:lkT E.tab T=some i) (hs:i.shape=.map kt et) (hkf:Bc E.P kt (ek k)=true) (hl:σ.find id=some (.mp (l.map (encM ek ev)))) (hk:∀ l',c l'=some r->K (.tup []) [id] [(id,.mp (l'.map (encM ek ev)))]):OpX E nt o σ K:=by
 obtain ⟨q,h1,_,h3⟩:=zje ek ev heq k l 0
 refine .mk _ _ _ (fun cx hE hnt=>ztx ho hts (Ak hd hE hnt) hxo hyo hx hy hl (by rw [hE];exact hT) hs (by rw [show cx.P=E.P by rw [<-hE]];exact hkf) h1 ?_) (hk _ hF)
 rw [<-h3]
 cases q<;>rfl
theorem OpX.nlq {op:BinOp}{T t2 sz e eb z:Nat}{x y:Operand}{i:TyI}{l:List AV}(hop:op=.eql\/op=.neq)(ho:o.op=.binOp op T x y t2)(hd:dokN E nt o.dst=true)(hxo:A5 x=true)(hyo:A5 y=true)(hx:σ.eval x=nlA sz l)(hy:σ.eval y=.nils)(hT:lkT E.tab T=some i)(hs:i.shape=.slc e z eb)
  (hk:K (.bool (match op with|.eql=>l.isEmpty|_=>!l.isEmpty)) [] []):OpX E nt o σ K :=
 .mk _ _ _ (fun cx hE hnt=>zz0 hop ho (Ak hd hE hnt) hxo hyo hx hy (by rw [hE];exact hT) hs) hk
end
theorem Yi (ids:List Nat)(sz:Nat)(l:List AV):(nlA sz l).inM ids=true:=by cases l<;>rfl
def nlw {β:Type}(t:Nat)(x:Option β):Option β:=x
theorem O8 {β:Type}(t:Nat)(x:Option β):nlw t x=x:=rfl
def nlz {α β:Type}(l:List α)(x:Option β):Option β:=match l with|[]=>none|_::_=>x
inductive FX (E:Env) (nt:Nat) (fn:Func) (σ:AS) (ps:List (AV×AV)):Prop
 |mk (τ:AS) (i:Nat) {ps0:List (AV×AV)} (hl:LeX E nt σ τ) (h1:retA E.tab τ fn.results.toList=some [.row i]) (h2:τ.find i=some (.mp ps0)) (hf:∀ p∈ps0,p.1.flat=true/\p.2.flat=true) (hp:Fc ps0 ps)
def EndF (E:Env)(nt:Nat)(fn:Func)(ps:List (AV×AV)):Exit->AS->Prop
 |.normal,σ=>FX E nt fn σ ps
 |.ret,σ=>FX E nt fn σ ps
 |_,_=>False
theorem FX.o {β:Type}{E:Env}{nt:Nat}{fn:Func}{σ:AS}{a r:β}{en:β->List (AV×AV)}(h:some a=some r)(hk:FX E nt fn σ (en a)):FX E nt fn σ (en r):=by injection h with h;subst h;exact hk
theorem zsq {ek:κ->AV}{ev:ν->AV}(hk:∀ a,(ek a).flat=true)(hv:∀ a,(ev a).flat=true){l:List (κ×ν)}:∀ p∈l.map (encM ek ev),p.1.flat=true/\p.2.flat=true:=fun p hp=>by
 obtain ⟨q,_,rfl⟩:=mem_map.1 hp
 exact ⟨hk _,hv _⟩
variable {ps:List (AV×AV)}
theorem ConF.walk {E:Env}{f:FuncId}{fn:Func}{args:List AV}(c:Code)(hf:E.P.funcs[f]? = some fn)(hb:fn.body=some c)(he:C6 E f)(hn:Nat.ble args.length fn.ntmps=true)
  (h:AW E fn.ntmps (EndF E fn.ntmps fn ps) [.code c] .normal (F6 args)) (hrg:E.rg=false:=by rfl) (hyl:E.yl=none:=by rfl) (hnp:E.np=0:=by rfl)(hrg:E.rg=false:=by rfl) (hyl:E.yl=none:=by rfl) (hnp:E.np=0:=by rfl):Con E true f args (.mapv ps):=by
 refine ⟨he,fun S w vs ha=>callsIn_wide.1 (callsIn_of_wp (F:=Fence.wide) (n:=0) hf hb trivial ?_)⟩
 have h0:WP (Cx.call E S w fn.ntmps) c (EndF E fn.ntmps fn ps) (F6 args):=WP.mono (h.out (Cx.call E S w fn.ntmps) rfl rfl) fun e σ hk=>by cases e<;>exact hk
 refine wpIn_mono (h0 _ _ (Y2 hyl hnp ha (Nat.le_of_ble_eq_true hn))) (fun e a w' ⟨σ,hq,hst0⟩=>?_)
 have key:FX E fn.ntmps fn σ ps->bodyPost E.P fn (fun e w'=>∃ v,e=.returned v/\BelE E w w'/\Rep w' (fun b=>(true=false/\S b)\/w.heap.size<=b) G0 (.mapv ps) v) .ret a w':=by
  rintro ⟨τ,i,hl,h1,h2,hfl,hp⟩
  obtain ⟨γ,hst⟩:=hl (Cx.call E S w fn.ntmps) rfl rfl a w' hst0
  obtain ⟨v,hv,hr⟩:=Uk hst h1
  obtain ⟨g,hg,hvg,es,clock,e2,e3,e4,e5⟩:=Rz hst h2 hr
  subst hvg
  refine ⟨hst.defers.d0 hrg,_,hv,_,rfl,⟨hst.below,hst.dr⟩,?_⟩
  have hgl:=hst.ge g (own.mk hg)
  exact .mapv _ hp g es clock e4 (aZ hgl.1.1) hgl.2 e2 e3 (fun j q q'=>(e5 j q q').1.flat (hfl _ (aU q')).1) (fun j q q'=>(e5 j q q').2.flat (hfl _ (aU q')).2)
 cases e with
 |normal=>exact key hq
 |ret=>exact key hq
 |_=>exact hq.elim
section
variable {cx:Cx} {o:Oper} {σ:AS}
theorem zoz {T kt et:Nat}{x:Operand}{i:TyI}(ho:o.op=.call { callee:=.builtin .len,args:=#[x],argTypes:=#[T] })(hd:dok cx o=true)(hxo:A5 x=true)(hx:σ.eval x=.mapv ps)(hT:lkT cx.E.tab T=some i)(hs:i.shape=.map kt et):Ag cx o σ (.int .i64 (ps.length:Int)) [] [] :=
 Ay hd fun τ γ a w h1 h2 hst=>by
  have ex:=hst.ev x hxo
  rw [h1 x (by simp [ho,Op.operands,Call.operands]),hx] at ex
  refine ⟨.int .i64 (ps.length:Int),?_,.int _ _⟩
  rcases mapv_val ex with ⟨g,ps0,hv,_,_,⟨es,clock,hb,hl',_⟩,hp⟩|⟨hv,he0⟩
  ·have hlen:ps0.length=ps.length:=by
    rcases hp with hp|hp
    ·rw [hp]
    ·exact hp.1.length_eq
   rw [<-hlen,<-hl']
   simp [execOp,ho,resolve,invoke,builtin,Builtin.len_,hv,run_underlying (Gv (cx.E.ok T i hT) hs),MapKept.run_getObj_map hb,goInt,pure,Result.andThen]
  ·subst he0
   simp [execOp,ho,resolve,invoke,builtin,Builtin.len_,hv,run_underlying (Gv (cx.E.ok T i hT) hs),goInt,pure,Result.andThen]
end
theorem OpX.lnv {E:Env}{nt:Nat}{o:Oper}{σ:AS}{K:OpK}{T kt et:Nat}{x:Operand}{i:TyI}(ho:o.op=.call { callee:=.builtin .len,args:=#[x],argTypes:=#[T] })(hd:dokN E nt o.dst=true)(hxo:A5 x=true)(hx:σ.eval x=.mapv ps)(hT:lkT E.tab T=some i)(hs:i.shape=.map kt et)(hk:K (.int .i64 (ps.length:Int)) [] []):OpX E nt o σ K :=
 .mk _ _ _ (fun cx hE hnt=>zoz ho (Ak hd hE hnt) hxo hx (by rw [hE];exact hT) hs) hk
theorem y12 {α β:Type}{l:List α}{x:Option β}{r:β}{P:Prop}(h:nlz l x=some r)(k:∀ a t,l=a::t->x=some r->P):P:=by
 unfold nlz at h
 split at h
 ·cases h
 ·exact k _ _ rfl h
attribute [irreducible] fro mde nlw nlz
end Go.Proofs.YthbogefcfhmpgaaGreat
