/- Layer 25, plainly. -/
import Derived.Test.YtidhlpjgifoneaaGreatK33
set_option linter.unusedVariables false
set_option linter.unusedSimpArgs false
set_option maxRecDepth 100000
namespace Go.Proofs.YtidhlpjgifoneaaGreat
open Go.RowKit List
theorem y97 {e:Exn}(h:WfE e):∃ b:Bool,z9h N0 e=some b:=by
 obtain ⟨z,hz,ht⟩:=h
 obtain ⟨c,c1,_⟩:=ygy 200 (by omega) (by omega) z e ht hz N0 (by unfold N0;omega)
 obtain ⟨d,d1,_⟩:=ymm z e ht hz N0 (by unfold N0;omega)
 unfold z9h
 simp only [z24,z1d,z6y]
 rw [c1,z04,d1,z04,z0d]
 split
 ·exact ⟨_,rfl⟩
 ·exact ⟨_,rfl⟩
theorem ygg (l:List Gd)(hw:∀ g∈l,WfE g.fCond)(hl:l.length<=1100000):∀ (m k:Nat),k<=l.length->l.length<m+k->∃ b:Bool,z8x N0 l (some true) m (k:Int)=some b
 |0,k,h1,h2=>by omega
 |m+1,k,h1,h2=>by
  unfold z8x
  simp only [length_map,z0d,z0y]
  by_cases h:k<l.length
  ·obtain ⟨b,hb⟩:=y97 (hw _ (getElem_mem h))
   rw [if_pos (by omega),z0k h,hb,z04,z1s k (by omega)]
   cases b with
   |true=>rw [z4u];exact ygg l hw hl m (k+1) (by omega) (by omega)
   |false=>rw [z5d];exact ⟨_,rfl⟩
  ·rw [if_neg (by omega)]
   exact ⟨_,rfl⟩
theorem yny (st:Stt)(hw:st.fGuards.length<=1100000/\∀ g∈st.fGuards,WfE g.fCond):∃ b:Bool,zcy N0 st.fGuards=some b:=ygg st.fGuards hw.2 hw.1 N0 0 (Nat.zero_le _) (by have:=hw.1;unfold N0;omega)
theorem ybp (a:Aut)(v:Int)(x:Ed)(ys:List Exn)(hy:x.fChecks=ys.map z0l)(hw:∀ y∈ys,WfE y)(hl:ys.length<=1100000)(P:Prop)(K:Option Bool)(hK:∃ b:Bool,K=some b/\(b=true->P)):∀ (m k:Nat),k<=ys.length->ys.length<m+k->∃ b:Bool,z8y N0 a v x K m (k:Int)=some b/\(b=true->P)
 |0,k,h1,h2=>by omega
 |m+1,k,h1,h2=>by
  unfold z8y
  have hll:x.fChecks.length=ys.length:=by rw [hy,length_map]
  simp only [length_map,z0d,z0y,hll]
  by_cases h:k<ys.length
  ·obtain ⟨b,hb⟩:=y97 (hw _ (getElem_mem h))
   rw [if_pos (by omega),y9q hy h,hb,z04,z1s k (by omega)]
   cases b with
   |true=>rw [z4u];exact ybp a v x ys hy hw hl P K hK m (k+1) (by omega) (by omega)
   |false=>rw [z5d];exact ⟨false,rfl,fun h=>by cases h⟩
  ·rw [if_neg (by omega)]
   exact hK
def ynf (a:Aut):Prop:=a.fEdges.length<=40/\∀ x∈a.fEdges,x.fOpens.length<=12
theorem ybq (a:Aut)(hw:WfA a)(K:Option Bool)(hK:∃ b:Bool,K=some b/\(b=true->a.fEdges.length<=40)):∀ (m k:Nat),k<=a.fEdges.length->k<=60->60<m+k->(∀ x∈a.fEdges.take k,x.fOpens.length<=12)->∃ b:Bool,z4l N0 a K m (k:Int)=some b/\(b=true->ynf a)
 |0,k,h1,h2,h3,h4=>by omega
 |m+1,k,h1,h2,h3,h4=>by
  have hex:(60<=k\/a.fEdges.length<=k)->∃ b:Bool,K=some b/\(b=true->ynf a):=fun hq=>by
   obtain ⟨b,b1,b2⟩:=hK
   refine ⟨b,b1,fun hb=>⟨b2 hb,fun x hx=>h4 x ?_⟩⟩
   have:=b2 hb
   rw [take_of_length_le (by omega)]
   exact hx
  have no:∃ b:Bool,some false=some b/\(b=true->ynf a):=⟨false,rfl,fun h=>by cases h⟩
  unfold z4l
  simp only [length_map,z0d,z24,z1d,z5y,z1o,z0y,z4u,z5d]
  by_cases h:k<a.fEdges.length
  rotate_left
  ·rw [if_neg (by omega)];exact hex (by omega)
  rw [if_pos (by omega)]
  by_cases h60:k<60
  rotate_left
  ·rw [if_neg (by omega)];exact hex (by omega)
  rw [if_pos (by omega),z0k h,z1s k (by omega)]
  have wx:=hw.ed _ (getElem_mem h)
  obtain ⟨b,hb⟩:=y97 wx.cond
  rw [hb,z04]
  cases b with
  |false=>rw [z5d];exact no
  |true =>
  rw [z4u]
  split
  ·exact no
  split
  ·exact no
  split
  ·exact no
  split
  ·exact no
  split
  ·exact no
  rename_i q1 q2 q3 q4 q5
  obtain ⟨ys,hy,hyw⟩:=wx.checks
  have hyl:ys.length<=1100000:=by have:=wx.lc;rw [hy,length_map] at this;exact this
  have ih:=ybq a hw K hK m (k+1) (by omega) (by omega) (by omega) (fun x hx=>by
   rw [take_succ_eq_append_getElem h] at hx
   rcases mem_append.1 hx with hx|hx
   ·exact h4 x hx
   ·rw [mem_singleton.1 hx];omega)
  exact ybp a (k:Int) _ ys hy hyw hyl (ynf a) _ ih N0 0 (Nat.zero_le _) (by unfold N0;omega)
theorem ybs (a:Aut)(hw:WfA a)(P:Prop)(K:Option Bool)(hK:∃ b:Bool,K=some b/\(b=true->P)):∀ (m k:Nat),k<=a.fStates.length->k<=30->30<m+k->∃ b:Bool,z4m N0 a K m (k:Int)=some b/\(b=true->P)
 |0,k,h1,h2,h3=>by omega
 |m+1,k,h1,h2,h3=>by
  have no:∃ b:Bool,some false=some b/\(b=true->P):=⟨false,rfl,fun h=>by cases h⟩
  unfold z4m
  simp only [length_map,z0d,z24,z1d,z5x,z21,z0y,z4u,z5d]
  by_cases h:k<a.fStates.length
  rotate_left
  ·rw [if_neg (by omega)];exact hK
  rw [if_pos (by omega)]
  by_cases h60:k<30
  rotate_left
  ·rw [if_neg (by omega)];exact hK
  have ih:=ybs a hw P K hK m (k+1) (by omega) (by omega) (by omega)
  obtain ⟨b,hb⟩:=yny _ (hw.st _ (getElem_mem h))
  have hi:∀ Q:Stt->Option Bool,idx a.fStates (k:Int) Q=Q a.fStates[k]:=fun Q=>z0k h Q
  rw [if_pos (by omega),z1s k (by omega)]
  simp only [hi,hb,z04]
  repeat' split
  all_goals first|exact no|(cases b<;>first|(rw [z4u];exact ih)|(rw [z5d];exact no))|skip
theorem yo6 (a:Aut)(hw:WfA a):∃ b:Bool,zcz N0 a=some b/\(b=true->ynf a):=by
 unfold zcz
 refine ybs a hw (ynf a) _ ?_ N0 0 (Nat.zero_le _) (by omega) (by unfold N0;omega)
 refine ybq a hw _ ?_ N0 0 (Nat.zero_le _) (by omega) (by unfold N0;omega) (by simp)
 simp only [z24,z1d,z6v,length_map,z0d]
 split
 ·exact ⟨_,rfl,fun h=>by simp at h;omega⟩
 ·exact ⟨_,rfl,fun h=>by cases h⟩
theorem zy8 (l:List Ev)(hl:l.length<=1000000)(a:Aut)(K:List (Rf×Ev)->Option (Option z0m×Int)):∀ (m k:Nat) (mp:List (Rf×Ev)),k<=l.length->l.length<m+k->zft N0 l a K m ((k:Int),mp)=K ((l.drop k).foldl (fun m e=>ye5 m (zc2 e) e) mp)
 |0,k,mp,h1,h2=>by omega
 |m+1,k,mp,h1,h2=>by
  unfold zft
  simp only [length_map,z0d]
  by_cases h:k<l.length
  ·have hr:zic N0 l[k]=some (zc2 l[k]):=rfl
   rw [if_pos (by omega),z0k h,hr,z04,ymt,z0e _ k h,foldl_cons,z1s k (by omega)]
   exact zy8 l hl a K m (k+1) _ (by omega) (by omega)
  grind
theorem y9g (a:Aut)(hw:WfA a)(l:List Ev)(hl:l.length<=1000000):∃ q:Int,z2o N0 a l=some q/\((q≠0/\zek N0 a l=some (none,q))\/(q=0/\AOk a/\ypi l/\z5e N0 a=some 0/\zjq l=0/\∃ mp,HM l mp/\zek N0 a l=some (some ⟨a,mp⟩,0))):=by
 obtain ⟨r,r1,r2,r3⟩:=yc4 N0 (by decide) a hw
 unfold z2o zek
 rw [r1,r2,z04,z04,z0y,z0d,z0y,z0d]
 by_cases h:r=0
 rotate_left
 ·simp_all
 rw [if_pos h,if_pos h,ymo N0 l (by unfold N0;omega) hl,yr3 N0 l (by unfold N0;omega) (by decide) hl,z04,z04,z0y,z0d]
 refine ⟨zjq l,rfl,?_⟩
 by_cases hs:zjq l=0
 rotate_left
 ·simp_all
 rw [if_pos hs]
 have hso:=zs2 hs
 refine Or.inr ⟨hs,r3 h,hso,by rw [h] ,hs,l.foldl (fun m e=>ye5 m (zc2 e) e) [],fun r=>?_,?_⟩
 ·rw [yhq r l [] hso.st]
  simp [mlk]
 ·refine (zy8 l hl a _ N0 0 [] (Nat.zero_le _) (by unfold N0;omega)).trans ?_
  rw [drop_zero]
variable {a:Aut}{c:Cf}{k:Nat}{e:Ev}{d:Cf}
theorem yrs {held:List Ev}(hx:CxA a held)(hst:Str zj6 held)(hc:CB held a k c){x:Ed}(hxe:x∈a.fEdges)(he:e∈held)(h:coP a held c x e=some d)(h0:0<=d.fState):CB held a (k+1) d:=by
 have hz:=yik hx hc hxe h
 have hd:=zrr h
 have eo:=hx.ok.ed x hxe
 refine ⟨?_,?_,?_,hz.1,hz.2⟩
 ·rw [hd] at h0 ⊢
  exact ⟨h0,eo.tgt.2⟩
 ·rw [hd]
  intro b hb
  rcases mem_append.1 hb with hb|hb
  ·exact hc.bd b hb
  ·rw [mem_singleton.1 hb]
   refine ⟨eo.var,?_⟩
   rw [y0p hst he]
   rfl
 ·rw [hd]
  exact (ymr e.fTime x.fOpens hc.ss).filter _
theorem CB.up {held:List Ev}(h:CB held a k c):CB held a (k+1) c:=⟨h.st,h.bd,h.ss,by have:=h.lb;omega,by have:=h.ls;omega⟩
theorem yod {held:List Ev}(hx:CxA a held)(hst:Str zj6 held)(hc:CB held a k c)(he:e∈held)(h:d∈zhp a held c e)(h0:0<=d.fState):CB held a (k+1) d:=by
 unfold zhp at h
 rcases mem_append.1 h with h|h
 ·split at h
  ·rw [mem_singleton.1 h]
   exact hc.up
  ·simp at h
 ·obtain ⟨x,hx',hd⟩:=mem_filterMap.1 h
  exact yrs hx hst hc (zlu hx').1 he hd h0
variable {l:List Cf}
theorem yis {held:List Ev}(h:d∈cfN a held l e):∃ c∈l,d∈zhp a held c e/\0<=d.fState:=by
 unfold cfN at h
 obtain ⟨c,h1,h2⟩:=mem_flatMap.1 ((zfd cfCmp_to _ _).1 h)
 exact ⟨c,h1,yan h2⟩
theorem yiu {held:List Ev}(hx:CxA a held)(hst:Str zj6 held)(hc:∀ c∈l,CB held a k c)(he:e∈held):∀ d∈cfN a held l e,CB held a (k+1) d:=fun d hd=>by
 obtain ⟨c,h1,h2,h3⟩:=yis hd
 exact yod hx hst (hc c h1) he h2 h3
theorem ymv {held:List Ev}(hx:CxA a held)(hk:k<=1000)(hc:∀ c∈l,CB held a k c)(e:Ev):∀ d∈maN a held l e,zle d=true:=fun d hd=>by
 unfold maN at hd
 obtain ⟨c,h1,h2⟩:=mem_flatMap.1 ((zfd zc3 _ _).1 hd)
 exact yhh hx hk (hc c h1) e d h2
theorem yol {held:List Ev}(hle:a.fEdges.length<=100)(l:List Cf)(e:Ev):(maN a held l e).length<=101*l.length:=by
 unfold maN
 have f2:=zrm (fun c=>maO (zhp a held c e)) 101 l (fun c _=>by have:=znz (zhp a held c e);have:(zhp a held c e).length<=a.fEdges.length+1:=zmy;omega)
 have:=zr9 (c:=z7v) (l.flatMap (fun c=>maO (zhp a held c e)))
 omega
theorem ynr (l s:List Ma)(hs:Str z7v s)(hl:Str z7v l):l.length<=(zki z7v s l).length:=by
 have:zki z7v s l=zki z7v l s:=Str.uniq zc3 (zrc zc3 _ _ hs) (zrc zc3 _ _ hl) (fun x=>by rw [zkm zc3,zkm zc3,Or.comm])
 rw [this]
 exact y4h s l
def wiP (most:Nat)(a:Aut)(held:List Ev):List Ev->List Cf->List Ma->List Cf×List Ma×Bool
 |[],cs,ms=>(cs,ms,true)
 |e::r,cs,ms=>if most<(cfN a held cs e).length\/most<(zki z7v ms (maN a held cs e)).length then ([],[],false) else wiP most a held r (cfN a held cs e) (zki z7v ms (maN a held cs e))
theorem zqa {l:List Ev}(hx:CxA a l)(hst:Str zj6 l)(hle:a.fEdges.length<=100)(most:Nat)(hm:most<=4096)(hm1:1<=most)(hl:l.length<=900) :
  ∀ (m k:Nat) (cs:List Cf) (ms:List Ma),k<=l.length->l.length<m+k->cs.length<=most->ms.length<=most->(∀ c∈cs,CB l a k c)->(∀ d∈ms,zle d=true)->z2w N0 (most:Int) l a (fun y0 y1=>some (y0,y1,true)) m (cs,ms,(k:Int))=some (wiP most a l (l.drop k) cs ms)
 |0,k,cs,ms,h1,h2,h3,h4,h5,h6=>by omega
 |m+1,k,cs,ms,h1,h2,h3,h4,h5,h6=>by
  unfold z2w
  simp only [length_map,z0d]
  by_cases h:k<l.length
  ·have he:=getElem_mem h
   have z:=yol (held:=l) hle cs l[k]
   have o:=ymv hx (by omega) h5 l[k]
   rw [if_pos (by omega),z0k h,yt6 hx hle (by omega) l[k] cs h5 (by omega),z04,z0e _ k h]
   have l2:=fun K=>y4m (most:Int) l a (cs,ms,(k:Int)) (cfN a l cs l[k],maN a l cs l[k]) o (by grind) K N0 0 ms (Nat.zero_le _) (by grind) (by grind) h6
   refine (l2 _).trans ?_
   rw [drop_zero]
   simp only [z24,z1d,z43,z0d,z4u]
   have ih:=zqa hx hst hle most hm hm1 hl m (k+1) (cfN a l cs l[k]) (zki z7v ms (maN a l cs l[k])) (by omega) (by omega)
   unfold wiP
   by_cases q1:most<(cfN a l cs l[k]).length
   ·simp_all
   rw [if_neg (by omega)]
   by_cases q2:most<(zki z7v ms (maN a l cs l[k])).length
   ·simp_all
   rw [if_neg (by omega),if_neg (by omega),z1s k (by omega)]
   exact ih (by omega) (by omega) (yiu hx hst h5 he) (ybb h6 o)
  ·rw [if_neg (by omega),drop_eq_nil_of_le (by omega)]
   rfl
theorem cb0 {l:List Ev}(ha:AOk a):CB l a 0 cf0:=⟨⟨by simp,by have:=ha.st;simp;omega⟩,fun b hb=>by simp at hb,by simp [SS],by simp,by simp⟩
theorem ygc {l:List Ev}(hx:CxA a l)(hst:Str zj6 l)(hle:a.fEdges.length<=100)(most:Nat)(hm:most<=4096)(hm1:1<=most)(hl:l.length<=900):zav N0 a l (most:Int)=some (wiP most a l l [cf0] []):=by
 unfold zav
 have hb:zdv N0=some cf0:=rfl
 rw [hb,z04]
 exact zqa hx hst hle most hm hm1 hl N0 0 [cf0] [] (Nat.zero_le _) (by unfold N0;omega) (by simp;omega) (by simp) (fun c hc=>by rw [mem_singleton.1 hc];exact cb0 hx.ok) (by simp)
theorem ybi {r:z0m}{l:List Ev}(hx:CxA r.fa l)(hm:HM l r.fheld)(hst:Str zj6 l)(hle:r.fa.fEdges.length<=100)(hl:l.length<=20)(K:List Cf->List Ma->Option (List Cf×List Ma×Int)) :
  ∀ (m k:Nat) (cs:List Cf) (all:List Ma),k<=l.length->l.length<m+k->cs.length<=150->all.length<=150*k->(∀ c∈cs,CB l r.fa k c)->(∀ d∈all,zle d=true)->(wiP 150 r.fa l (l.drop k) cs (zjn z7v all)).2.2=true ->
   ∃ cs' all',ze0 N0 l r K m (cs,(k:Int),all)=K cs' all'/\wiP 150 r.fa l (l.drop k) cs (zjn z7v all)=(cs',zjn z7v all',true)/\(∀ d∈all',zle d=true)/\all'.length<=4096/\cs'.length<=150/\(zjn z7v all').length<=max 150 (zjn z7v all).length/\(∀ c∈cs',CB l r.fa l.length c)
 |0,k,cs,all,h1,h2,h3,h4,h5,h6,h7=>by omega
 |m+1,k,cs,all,h1,h2,h3,h4,h5,h6,h7=>by
  unfold ze0
  simp only [length_map,z0d]
  by_cases h:k<l.length
  ·have he:=getElem_mem h
   have hch:∀ y∈l,zc2 y=zc2 l[k]->y=l[k]:=fun y hy hr=>by
    have e1:=y0p hst hy
    have e2:=y0p hst he
    simp_all
   rw [z0e _ k h] at h7 ⊢
   unfold wiP at h7 ⊢
   have eM:zki z7v (zjn z7v all) (maN r.fa l cs l[k])=zjn z7v (all++maN r.fa l cs l[k]):=by unfold zjn;rw [<-zj2]
   have hge:=ynr (maN r.fa l cs l[k]) (zjn z7v all) (zkk zc3 _) (zkk zc3 _)
   by_cases q:150<(cfN r.fa l cs l[k]).length\/150<(zki z7v (zjn z7v all) (maN r.fa l cs l[k])).length
   ·rw [if_pos q] at h7;cases h7
   rw [if_neg q] at h7 ⊢
   have o:=ymv hx (by omega) h5 l[k]
   rw [if_pos (by omega),z0k h,y5g hx hm (by omega) hch hle cs h5 (by omega),z04]
   have hw:IntKind.wrap .i64 (((all.length:Nat):Int)+(((maN r.fa l cs l[k]).length:Nat):Int))=((all.length+(maN r.fa l cs l[k]).length:Nat):Int):=by rw [zee _ (by omega)];omega
   simp only [z24,z1d,zfa,z4u,z0d]
   rw [if_neg (by omega),if_neg (by omega),hw,if_neg (by omega),zbr (by omega) (by omega),z1s k (by omega)]
   rw [eM] at h7 ⊢
   obtain ⟨cs',all',a1,a2,a3,a4,a5,a6,a7⟩:=ybi hx hm hst hle hl K m (k+1) (cfN r.fa l cs l[k]) (all++maN r.fa l cs l[k]) (by omega) (by omega) (by omega) (by rw [length_append];omega) (yiu hx hst h5 he) (fun d hd=>by
    grind) h7
   grind
  ·rw [if_neg (by omega)]
   have hk:k=l.length:=by omega
   rw [drop_eq_nil_of_le (by omega)]
   exact ⟨cs,all,rfl,rfl,h6,by omega,h3,by omega,by rw [<-hk];exact h5⟩
theorem ygb (a:Aut)(hw:WfA a)(l:List Ev):∃ b:Bool,z9m N0 a l=some b/\(b=true->ynf a/\l.length<=12/\∃ q:Int,z2o N0 a l=some q/\(q=0->(wiP 150 a l l [cf0] []).2.2=true)):=by
 obtain ⟨b,b1,b2⟩:=yo6 a hw
 unfold z9m
 simp only [z24,z1d,z4w]
 rw [b1,z04,yqs N0 l (by decide),z0y,z04]
 cases b with
 |false=>rw [z5d,z4u];simp_all
 |true =>
  rw [z4u]
  cases hfl:yrg l with
  |false=>simp only [Bool.not_false,z4u];simp_all
  |true =>
   simp only [Bool.not_true,z5d]
   obtain ⟨hl,_⟩:=ylt hfl
   obtain ⟨q,q1,q2⟩:=y9g a hw l (by omega)
   rw [q1,z04,z0y,z0d]
   rcases q2 with ⟨h,_⟩|⟨h,ha,hs,_,_,_⟩
   ·simp_all
   ·have hf:=b2 rfl
    have hx:CxA a l:=⟨hw,ha,fun x hx=>by have:=hf.2 x hx;omega,by omega⟩
    have hr:=ygc hx hs.st (by have:=hf.1;omega) 150 (by omega) (by omega) (by omega)
    have h4:((150:Nat):Int)=150:=rfl
    rw [h4] at hr
    rw [if_pos h,hr,z04]
    simp_all
variable {h1 h2:List Ev}
theorem zt5:∀ (l:List Bd) (vs:List (List Ev)),(∀ b∈l,lkH h1 b.fRef=lkH h2 b.fRef)->l.foldl (zr0 h1) vs=l.foldl (zr0 h2) vs
 |[],vs,_=>rfl
 |b::l,vs,h=>by
  rw [foldl_cons,foldl_cons]
  have:zr0 h1 vs b=zr0 h2 vs b:=by unfold zr0;rw [h b (by simp)]
  rw [this]
  exact zt5 l _ (fun x hx=>h x (mem_cons_of_mem _ hx))
theorem ztd {l:List Bd}(h:∀ b∈l,lkH h1 b.fRef=lkH h2 b.fRef):enH h1 l=enH h2 l:=zt5 l _ h
theorem yil (h:∀ b∈c.fBindings,lkH h1 b.fRef=lkH h2 b.fRef)(x:Ed)(e:Ev):coP a h1 c x e=coP a h2 c x e:=by
 have e2:enH (e::h1) (bdN c x e)=enH (e::h2) (bdN c x e):=ztd (fun b hb=>by
  unfold lkH
  rw [find?_cons,find?_cons]
  by_cases q:zc2 e=b.fRef
  ·simp [q]
  ·simp only [q,decide_false]
   rcases mem_append.1 hb with hb|hb
   ·exact h b hb
   ·rw [mem_singleton.1 hb] at q;exact absurd rfl q)
 unfold coP
 rw [ztd h,e2]
theorem zya (h:∀ b∈c.fBindings,lkH h1 b.fRef=lkH h2 b.fRef)(e:Ev):zhp a h1 c e=zhp a h2 c e:=by
 unfold zhp skP
 rw [ztd h]
 congr 1
 exact congrArg (fun f=>filterMap f (zt4 a c.fState)) (funext fun x=>yil h x e)
theorem zpo {α β:Type}{f g:α->List β}:∀ {l:List α},(∀ x∈l,f x=g x)->l.flatMap f=l.flatMap g
 |[],_=>rfl
 |x::l,h=>by rw [flatMap_cons,flatMap_cons,h x (by simp),zpo (fun y hy=>h y (mem_cons_of_mem _ hy))]
theorem yit (h:∀ c∈l,∀ b∈c.fBindings,lkH h1 b.fRef=lkH h2 b.fRef)(e:Ev):cfN a h1 l e=cfN a h2 l e:=by
 unfold cfN;rw [zpo (fun c hc=>by rw [zya (h c hc) e])]
theorem yhi (h:∀ c∈l,∀ b∈c.fBindings,lkH h1 b.fRef=lkH h2 b.fRef)(e:Ev):maN a h1 l e=maN a h2 l e:=by
 unfold maN;rw [zpo (fun c hc=>by rw [zya (h c hc) e])]
theorem yom {l more:List Ev}(hs:Str zj6 more)(hm:∀ x∈l,x∈more){r:Rf}(h:(lkH l r).isSome=true):lkH l r=lkH more r:=by
 obtain ⟨y,hy⟩:=Option.isSome_iff_exists.1 h
 obtain ⟨h1,h2⟩:=y0o hy
 have:=y0p hs (hm y h2)
 rw [h1] at this
 rw [hy,this]
theorem yti {l more:List Ev}(hs:Str zj6 more)(hm:∀ x∈l,x∈more){cs:List Cf}(hc:∀ c∈cs,CB l a k c):∀ c∈cs,∀ b∈c.fBindings,lkH l b.fRef=lkH more b.fRef:=fun c h b hb=>yom hs hm ((hc c h).bd b hb).2
theorem ygi (a b:Rf):zi1 N0 a b=some (zsh a b):=by
 have:zi1 (1999999996+4) a b=some (zsh a b):=by
  unfold zi1
  simp only [z04,y9u,ylv]
  rfl
 exact this
structure CIv (a:Aut) (rest:List Ev) (c:Cf):Prop where
 asc:c.fBindings.Pairwise (fun x y=>zsh x.fRef y.fRef<0)
 bef:∀ b∈c.fBindings,∀ e∈rest,zsh b.fRef (zc2 e)<0
 scp:∀ s∈c.fStarts,(0<=s.fScope/\s.fScope<a.fScopes)/\0<=s.fTime/\s.fTime<=1099511627776
variable {r:List Ev}
theorem CIv.tail (h:CIv a (e::r) c):CIv a r c:=⟨h.asc,fun b hb x hx=>h.bef b hb x (mem_cons_of_mem _ hx),h.scp⟩
theorem yrr (ha:AOk a){held:List Ev}(hst:Str zj6 (e::r))(hp:zef e=true)(h:CIv a (e::r) c){x:Ed}(hx:x∈a.fEdges)(hd:coP a held c x e=some d):CIv a r d:=by
 rw [zrr hd]
 obtain ⟨s1,s2⟩:=pairwise_cons.1 hst
 refine ⟨?_,fun b hb y hy=>?_,fun s hs=>?_⟩
 ·show Pairwise _ (bdN c x e)
  unfold bdN
  rw [pairwise_append]
  exact ⟨h.asc,pairwise_singleton _ _,fun b hb y hy=>by rw [mem_singleton.1 hy];exact h.bef b hb e (by simp)⟩
 ·rcases mem_append.1 hb with hb|hb
  ·exact h.bef b hb y (mem_cons_of_mem _ hy)
  ·rw [mem_singleton.1 hb];exact s1 y hy
 ·have hs':=(mem_filter.1 hs).1
  rcases opL_mem e.fTime x.fOpens hs' with ⟨k1,k2⟩|k
  ·refine ⟨(ha.ed x hx).opn _ k1,?_⟩
   rw [k2]
   unfold zef at hp
   simp only [Bool.and_eq_true,decide_eq_true_eq] at hp
   exact ⟨hp.1,hp.2.1⟩
  ·exact h.scp s k
theorem yoc (ha:AOk a){held:List Ev}(hst:Str zj6 (e::r))(hp:zef e=true)(h:CIv a (e::r) c)(hd:d∈zhp a held c e):CIv a r d:=by
 unfold zhp at hd
 rcases mem_append.1 hd with hd|hd
 ·split at hd
  ·rw [mem_singleton.1 hd];exact h.tail
  ·simp at hd
 ·obtain ⟨x,hx,hd⟩:=mem_filterMap.1 hd
  exact yrr ha hst hp h (zlu hx).1 hd
theorem yrv (ha:AOk a){held:List Ev}(hst:Str zj6 (e::r))(hp:zef e=true){cs:List Cf}(h:∀ c∈cs,CIv a (e::r) c):∀ d∈cfN a held cs e,CIv a r d:=fun d hd=>by
 obtain ⟨c,h1,h2,_⟩:=yis hd
 exact yoc ha hst hp (h c h1) h2
theorem yaz {held:List Ev}:∀ (p:List Ev) (cs:List Cf) (ms:List Ma),(wiP 150 a held (p++[e]) cs ms).2.2=true->∃ x m,wiP 150 a held p cs ms=(x,m,true)/\wiP 150 a held (p++[e]) cs ms=(cfN a held x e,zki z7v m (maN a held x e),true)/\(cfN a held x e).length<=150/\(zki z7v m (maN a held x e)).length<=150
 |[],cs,ms,h=>by
  refine ⟨cs,ms,rfl,?_⟩
  rw [nil_append] at h ⊢
  unfold wiP at h ⊢
  split at h
  ·cases h
  ·rename_i q
   rw [if_neg q]
   exact ⟨rfl,by omega,by omega⟩
 |f::p,cs,ms,h=>by
  rw [cons_append] at h ⊢
  unfold wiP at h ⊢
  split at h
  ·cases h
  ·rename_i q
   rw [if_neg q,if_neg q]
   exact yaz p _ _ h
theorem zy5 (r:z0m)(c:Cf)(hl:c.fStarts.length<=1000000)(hs:∀ s∈c.fStarts,(0<=s.fScope/\s.fScope<r.fa.fScopes)/\0<=s.fTime/\s.fTime<=1099511627776)(ha:SS c.fStarts):∀ (m k:Nat),k<=c.fStarts.length->c.fStarts.length<m+k->z1m N0 c r (some 0) m (k:Int)=some 0
 |0,k,h1,h2=>by omega
 |m+1,k,h1,h2=>by
  unfold z1m
  simp only [length_map,z0d,z24,z1d,z23,z3w,z4u,z5d]
  by_cases h:k<c.fStarts.length
  ·obtain ⟨⟨q1,q2⟩,q3,q4⟩:=hs _ (getElem_mem h)
   have ih:=zy5 r c hl hs ha m (k+1) (by omega) (by omega)
   rw [if_pos (by omega),z0k h,if_neg (by omega),if_neg (by omega),if_neg (by omega),if_neg (by omega),z1s k (by omega)]
   by_cases h0:0<k
   ·have:=pairwise_iff_getElem.1 ha (k-1) k (by omega) h (by omega)
    rw [if_pos (by omega),y3x k (by omega) (by omega),z0k (by omega:k-1<c.fStarts.length),if_neg (by omega)]
    exact ih
   ·rw [if_neg (by omega)]
    exact ih
  ·rw [if_neg (by omega)]
theorem zy6 (r:z0m)(held:List Ev)(hm:HM held r.fheld)(c:Cf)(hl:c.fBindings.length<=1000000)(hb:ypw held r.fa.fVars c.fBindings)(ha:c.fBindings.Pairwise (fun x y=>zsh x.fRef y.fRef<0))(K:Option Int)(hK:K=some 0):∀ (m k:Nat),k<=c.fBindings.length->c.fBindings.length<m+k->z2i N0 c r K m (k:Int)=some 0
 |0,k,h1,h2=>by omega
 |m+1,k,h1,h2=>by
  unfold z2i
  simp only [length_map,z0d,z24,z1d,z3v,z3u,z4u,z5d,z0y]
  by_cases h:k<c.fBindings.length
  ·obtain ⟨⟨q1,q2⟩,q3⟩:=hb _ (getElem_mem h)
   have ih:=zy6 r held hm c hl hb ha K hK m (k+1) (by omega) (by omega)
   have e1:(⟨c.fBindings[k].fRef.fTime,c.fBindings[k].fRef.fSource,c.fBindings[k].fRef.fSeq⟩:Rf)=c.fBindings[k].fRef:=rfl
   rw [if_pos (by omega),z0k h,e1,yce,hm,q3]
   simp only [z4u]
   rw [if_neg (by omega),if_neg (by omega),z1s k (by omega)]
   by_cases h0:0<k
   ·have:=pairwise_iff_getElem.1 ha (k-1) k (by omega) h (by omega)
    have e2:(⟨c.fBindings[k-1].fRef.fTime,c.fBindings[k-1].fRef.fSource,c.fBindings[k-1].fRef.fSeq⟩:Rf)=c.fBindings[k-1].fRef:=rfl
    rw [if_pos (by omega),y3x k (by omega) (by omega),z0k (by omega:k-1<c.fBindings.length),e2,ygi,z04,if_neg (by omega)]
    exact ih
   ·rw [if_neg (by omega)]
    exact ih
  ·rw [if_neg (by omega)]
   exact hK
theorem ykz {r:z0m}{held:List Ev}(hm:HM held r.fheld)(hk:k<=1000)(hc:CB held r.fa k c){rest:List Ev}(hi:CIv r.fa rest c):z49 N0 r c=some 0:=by
 have h1:=hc.lb
 have h2:=hc.ls
 have h3:=hc.st
 unfold z49
 simp only [z24,z1d,z4p,z0d,z4u,length_map]
 rw [if_neg (by omega),if_neg (by omega),if_neg (by omega)]
 have:=zy5 r c (by omega) hi.scp hc.ss N0 0 (Nat.zero_le _) (by unfold N0;omega)
 exact zy6 r held hm c (by omega) hc.bd hi.asc _ this N0 0 (Nat.zero_le _) (by unfold N0;omega)
theorem yqk (e:Ev):zid N0 e=some (zef e):=by
 unfold zid zef
 simp only [z24,z1d,z7z,z0d]
 repeat' split
 all_goals (simp_all<;>omega)
theorem yqr (hp:zef e=true)(l:List Cf)(hl:l.length<=1000000)(hb:∀ c∈l,c.fBindings.length<=1000000)(h:∀ c∈l,CIv a (e::r) c):zi2 N0 l e=some 0:=by
 unfold zi2
 rw [yqk,hp,z04,z0y,z4u]
 rw [ye0 N0 e (fun _=>false) l (by omega) (by unfold N0;omega) (fun c hc=>by
  have hbl:=hb c hc
  unfold zgg zn8
  rw [ydz N0 e (fun b=>decide (0<=zsh b.fRef (zc2 e))) c.fBindings (by omega) (by unfold N0;omega) (fun b _=>by
   unfold zgf
   have hr:zic N0 e=some (zc2 e):=rfl
   rw [hr,z04]
   have e1:(⟨b.fRef.fTime,b.fRef.fSource,b.fRef.fSeq⟩:Rf)=b.fRef:=rfl
   have e2:(⟨(zc2 e).fTime,(zc2 e).fSource,(zc2 e).fSeq⟩:Rf)=zc2 e:=rfl
   simp only [e1,e2,ygi,z04]),z04,z04]
  congr 1
  rw [any_eq_false]
  intro b hb'
  have:=(h c hc).bef b hb' e (by simp)
  simp only [decide_eq_true_eq]
  omega),z04]
 have:(l.any fun _=>false)=false:=by rw [any_eq_false];simp
 rw [this,z5d]
theorem yiq:∀ (l p r:List Ev),chk p (l++r)=0->chk p l=0
 |[],p,r,_=>by unfold chk;rfl
 |e::l,p,r,h=>by
  rw [cons_append] at h
  unfold chk at h ⊢
  split at h
  ·cases h
  split at h
  ·cases h
  split at h
  ·cases h
  rename_i h1 h2 h3
  rw [if_neg h1,if_neg h2,if_neg h3]
  exact yiq l (e::p) r h
theorem ydb {l:List Ev}(h:zjq (l++r)=0):zjq l=0:=by
 unfold zjq at h ⊢
 split at h
 ·cases h
 ·rename_i q
  rw [length_append] at q
  rw [if_neg (by omega)]
  exact yiq l [] r h
structure GS (a:Aut) (l:List Ev):Prop where
 wf:WfA a
 few:ynf a
 ok:AOk a
 chk:z5e N0 a=some 0
 acheck:zb9 N0 a=some 0
 str:zjq l=0
 len:l.length<=12
 sm:(wiP 150 a l l [cf0] []).2.2=true
theorem GS.so {l:List Ev}(h:GS a l):ypi l:=zs2 h.str
theorem GS.cx {l:List Ev}(h:GS a l):CxA a l:=⟨h.wf,h.ok,fun x hx=>by have:=h.few.2 x hx;omega,by have:=h.len;omega⟩
theorem GS.pre {l:List Ev}(h:GS a l)(i:Nat):zjq (l.take i)=0:=by
 have:=h.str
 rw [<-take_append_drop i l] at this
 exact ydb this
theorem GS.cxp {l:List Ev}(h:GS a l)(i:Nat):CxA a (l.take i):=⟨h.wf,h.ok,fun x hx=>by have:=h.few.2 x hx;omega,by have:=h.len;rw [length_take];omega⟩
theorem GS.edges {l:List Ev}(h:GS a l):a.fEdges.length<=100:=by have:=h.few.1;omega
theorem GS.begin {l:List Ev}(h:GS a l)(i:Nat):∃ mp,HM (l.take i) mp/\zek N0 a (l.take i)=some (some ⟨a,mp⟩,0):=by
 have hl:=h.len
 obtain ⟨q,q1,q2⟩:=y9g a h.wf (l.take i) (by rw [length_take];omega)
 have hq:q=0:=by
  unfold z2o at q1
  rw [h.chk,z04,z0y,z0d,if_pos rfl,ymo N0 _ (by grind) (by rw [length_take];omega),z04,h.pre i] at q1
  exact (Option.some.inj q1).symm
 simp_all
theorem y5f {l:List Ev}(h:GS a l)(i:Nat):z8o N0 a (l.take i)=some 0:=by
 have hl:=h.len
 unfold z8o
 rw [h.acheck,z04,z0y,z0d,if_pos rfl,yr3 N0 _ (by grind) (by decide) (by rw [length_take];omega),z04,h.pre i]
structure zn6 (a:Aut) (l:List Ev) (i:Nat) (c:Cf):Prop where
 cb:CB l a (i+20) c
 ci:CIv a (l.drop i) c
theorem CB.mono {l:List Ev}{m:Nat}(h:CB l a k c)(hk:k<=m):CB l a m c:=⟨h.st,h.bd,h.ss,Nat.le_trans h.lb hk,Nat.le_trans h.ls (Nat.mul_le_mul_left _ hk)⟩
theorem gd0 {l:List Ev}(h:GS a l):zn6 a l 0 cf0:=⟨(cb0 h.ok).mono (Nat.zero_le _),by simp,fun b hb=>by simp at hb,fun s hs=>by simp at hs⟩
variable {i:Nat}
theorem zn6.held {l:List Ev}(h:GS a l)(hc:zn6 a l i c):CB (l.take i) a (i+20) c:=by
 refine ⟨hc.cb.st,fun b hb=>⟨(hc.cb.bd b hb).1,?_⟩,hc.cb.ss,hc.cb.lb,hc.cb.ls⟩
 have h1:=(hc.cb.bd b hb).2
 rw [<-take_append_drop i l,yhk] at h1
 cases hq:lkH (l.take i) b.fRef with
 |some e=>rfl
 |none =>
  rw [hq] at h1
  obtain ⟨e,he⟩:=Option.isSome_iff_exists.1 h1
  obtain ⟨e1,e2⟩:=y0o (by simpa using he)
  have:=hc.ci.bef b hb e e2
  rw [e1] at this
  have:=znu.lt_ne this
  exact absurd rfl this
theorem zn6.ok {l:List Ev}(h:GS a l)(hi:i<=12)(hc:zn6 a l i c):zli c=true:=hc.cb.sz.ok (by omega)
theorem zn6.cs {l:List Ev}(h:GS a l)(hi:i<=12)(hc:zn6 a l i c):CS (zeg a) c:=by
 have h1:=hc.cb.st
 have h2:=hc.cb.lb
 have h3:=hc.cb.ls
 exact ⟨by rw [(zrs a).1.len];exact h1,by omega,by omega⟩
theorem yp7 {l:List Ev}(hi:i<l.length):l.drop i=l[i]::l.drop (i+1):=drop_eq_getElem_cons hi
theorem ykd {l:List Ev}(h:Str zj6 l)(i:Nat):Str zj6 (l.drop i):=Pairwise.sublist (drop_sublist i l) h
theorem zn6.next {l:List Ev}(h:GS a l)(hi:i<l.length){cs:List Cf}(hc:∀ c∈cs,zn6 a l i c):∀ d∈cfN a l cs l[i],zn6 a l (i+1) d:=fun d hd=>by
 have so:=h.so
 have e:=yp7 hi
 refine ⟨(yiu h.cx so.st (fun c hc'=>(hc c hc').cb) (getElem_mem hi) d hd).mono (by omega),?_⟩
 have hst:=ykd so.st i
 rw [e] at hst
 refine yrv h.ok hst (so.pl _ (getElem_mem hi)) (fun c hc'=>?_) d hd
 have:=(hc c hc').ci
 rw [e] at this
 exact this
theorem zn6.lk {l:List Ev}(h:GS a l){cs:List Cf}(hc:∀ c∈cs,zn6 a l i c):∀ c∈cs,∀ b∈c.fBindings,lkH (l.take i) b.fRef=lkH l b.fRef :=
 yti h.so.st (fun y hy=>mem_of_mem_take hy) (fun c hc'=>(hc c hc').held h)
theorem yt9 {l:List Ev}(h:GS a l)(hi:i<l.length):∀ y∈l.take i,zc2 y=zc2 l[i]->y=l[i]:=fun y hy hr=>by
 have hst:=h.so.st
 obtain ⟨j,hj,rfl⟩:=mem_iff_getElem.1 hy
 rw [length_take] at hj
 rw [getElem_take] at hr
 have:=pairwise_iff_getElem.1 hst j i (by omega) hi (by omega)
 exact absurd hr (znu.lt_ne this)
variable {mp:List (Rf×Ev)}
theorem yr4 {l:List Ev}(h:GS a l)(hi:i<l.length)(hm:HM (l.take i) mp){cs:List Cf}(hc:∀ c∈cs,zn6 a l i c)(hl:cs.length<=5000):z5f N0 ⟨a,mp⟩ cs l[i]=some (cfN a l cs l[i],maN a l cs l[i]):=by
 have hln:=h.len
 have had:=y5g (r:=⟨a,mp⟩) (h.cxp i) hm (by omega:i+20<=1000) (yt9 h hi) h.edges cs (fun c hc'=>(hc c hc').held h) hl
 rw [yit (zn6.lk h hc),yhi (zn6.lk h hc)] at had
 exact had
theorem ydx {l:List Ev}(h:GS a l)(hi:i<=l.length)(hm:HM (l.take i) mp)(hc:zn6 a l i c):z49 N0 ⟨a,mp⟩ c=some 0 :=
 ykz (r:=⟨a,mp⟩) hm (by have:=h.len;omega:i+20<=1000) (hc.held h) hc.ci
theorem yl5 {l:List Ev}(h:GS a l)(hi:i<l.length){cs:List Cf}(hc:∀ c∈cs,zn6 a l i c)(hl:cs.length<=5000):zi2 N0 cs l[i]=some 0:=by
 have hln:=h.len
 refine yqr (a:=a) (r:=l.drop (i+1)) (h.so.pl _ (getElem_mem hi)) cs (by omega) (fun c hc'=>by have:=(hc c hc').cb.lb;omega) (fun c hc'=>?_)
 have:=(hc c hc').ci
 simp_all
theorem ykv {l:List Ev}(h:GS a l)(hi:i<l.length)(hc:zn6 a l i c):zkg N0 a (l.take i) c l[i]=some (cfN a l [c] l[i],maN a l [c] l[i],0):=by
 obtain ⟨mp,hm,hb⟩:=h.begin i
 have hc':∀ d∈[c],zn6 a l i d:=fun d hd=>by simp_all
 unfold zkg yk0
 rw [hb]
 simp only [z0y,z0d]
 rw [if_pos trivial,ydx h (by omega) hm hc,z04,if_pos rfl,yl5 h hi hc' (by simp),z04,if_pos rfl,yr4 h hi hm hc' (by simp),z04]
theorem ybt (a b:List Sta)(hl:a.length=b.length)(hb:a.length<=1000000):∀ (m k:Nat),k<=a.length->a.length<m+k->z92 N0 b a (some true) m (k:Int)=some (decide (a.drop k=b.drop k))
 |0,k,h1,h2=>by omega
 |m+1,k,h1,h2=>by
  unfold z92
  have e:∀ x y:Sta,(decide (x.fScope=y.fScope) && (decide (x.fTime=y.fTime) && true))=decide (x=y):=fun x y=>by
   obtain ⟨v,t⟩:=x
   obtain ⟨v',t'⟩:=y
   simp
  simp only [length_map,z0d,e]
  by_cases h:k<a.length
  ·have h':k<b.length:=by omega
   rw [if_pos (by omega),z0k h,z0k h',drop_eq_getElem_cons h,drop_eq_getElem_cons h',z1s k (by omega)]
   have ih:=ybt a b hl hb m (k+1) (by omega) (by omega)
   rw [z0y,z0d]
   by_cases e:a[k]=b[k]
   ·have q:(a[k]::a.drop (k+1)=b[k]::b.drop (k+1)) ↔ a.drop (k+1)=b.drop (k+1):=⟨fun h=>(List.cons.inj h).2,fun h=>by rw [e,h]⟩
    simp_all
   ·have q:¬(a[k]::a.drop (k+1)=b[k]::b.drop (k+1)):=fun h=>e (List.cons.inj h).1
    rw [if_neg e,decide_eq_false q]
  grind
theorem yt1 (a b:List Sta)(ha:a.length<=1000000):zd3 N0 a b=some (decide (a=b)):=by
 unfold zd3
 simp only [length_map,z0y,z0d]
 by_cases h:a.length=b.length
 ·rw [if_pos (by omega)]
  have:=ybt a b h ha N0 0 (Nat.zero_le _) (by unfold N0;omega)
  simpa using this
 ·rw [if_neg (by omega)]
  have:a≠b:=fun e=>h (by rw [e])
  simp [this]
theorem y0c (c d:Cf)(h1:c.fBindings.length<=1000000)(h2:c.fStarts.length<=1000000):zf3 N0 c d=some (decide (c=d)):=by
 unfold zf3
 simp only [z24,z1d,z6m,z0d,yqx _ _ h1,yt1 _ _ h2,z04]
 obtain ⟨s,b,t⟩:=c
 obtain ⟨s',b',t'⟩:=d
 simp only [z00.mk.injEq]
 grind
theorem yoa (c d:Cf)(h1:c.fBindings.length<=1000000)(h2:c.fStarts.length<=1000000)(h3:d.fBindings.length<=1000000)(h4:d.fStarts.length<=1000000):∃ v:Int,zc1 N0 c d=some v/\(v<0 ↔ zdi c d<0):=by
 have oc:zli c=true:=(zgo c).2 ⟨by omega,by omega⟩
 have od:zli d=true:=(zgo d).2 ⟨by omega,by omega⟩
 unfold zc1
 rw [yqj N0 (by decide) [c,d] (fun x hx=>by
  grind) (by simp),z04]
 have key:∀ s:List Cf,Str zdi s->(∀ x,x∈s ↔ x∈[c,d])->zjn zdi [c,d]=s:=fun s hs hm=>(yfl cfCmp_to (fun x=>(hm x).symm)).trans (y8m cfCmp_to hs)
 rcases cfCmp_to.one c d with hlt|heq|hgt
 ·have e:=key [c,d] (by simp [Str];omega) (fun x=>Iff.rfl)
  rw [e]
  simp only [length_cons,length_nil,z24,z1d,z2u,z0d,z0y,length_map,z4u,z5d,zot,y0c c c h1 h2,z04]
  refine ⟨-1,?_,by omega⟩
  simp [z4u,z5d,zot,y0c c c h1 h2,z04]
 ·have hcd:=(cfCmp_to.zero c d).1 heq
  subst hcd
  have e:=key [c] (by simp [Str]) (fun x=>by simp)
  rw [e]
  refine ⟨0,?_,by omega⟩
  simp [z24,z1d,z2u,z0d,z4u,z5d]
 ·have hn:=cfCmp_to.neg c d
  have e:=key [d,c] (by simp [Str];omega) (fun x=>by simp [or_comm])
  rw [e]
  have hne:¬d=c:=fun q=>by
   simp_all
  refine ⟨1,?_,by omega⟩
  simp [z24,z1d,z2u,z0d,z4u,z5d,zot,y0c d c h3 h4,z04,hne]
def zvw (R:List Mp)(l:List Cf)(d:Cf):Bool:=l.any (fun c=>cov R c d)
variable {R:List Mp}
theorem ygv (hl:l.length<=1000000)(hs:∀ c∈l,CS R c)(hd:CS R d):∀ (m k:Nat),k<=l.length->l.length<m+k->∃ y:Int,z3l N0 d R l (some (-1)) m (k:Int)=some y/\(0<=y ↔ zvw R (l.drop k) d=true)
 |0,k,h1,h2=>by omega
 |m+1,k,h1,h2=>by
  unfold z3l zcc
  simp only [length_map,z0d]
  by_cases h:k<l.length
  ·obtain ⟨y,y1,y2⟩:=ygv hl hs hd m (k+1) (by omega) (by omega)
   rw [if_pos (by omega),z0k h,yt5 (hs _ (getElem_mem h)) hd,z04,z04,drop_eq_getElem_cons h,z1s k (by omega)]
   unfold zvw at y2 ⊢
   rw [any_cons]
   cases hc:cov R l[k] d
   ·rw [z5d];simp_all
   ·rw [z4u];exact ⟨k,rfl,by simp⟩
  ·rw [if_neg (by omega),drop_eq_nil_of_le (by omega)]
   exact ⟨-1,rfl,by simp [zvw]⟩
theorem y5d (hl:l.length<=1000000)(hs:∀ c∈l,CS R c)(hd:CS R d):za1 N0 l d R=some (zvw R l d):=by
 obtain ⟨y,y1,y2⟩:=ygv hl hs hd N0 0 (Nat.zero_le _) (by unfold N0;omega)
 unfold za1 zas zca
 have e:z3l N0 d R l (some (-1)) N0 0=some y:=by simpa using y1
 rw [e,z04,z04]
 simp_all
variable {S:List (List Cf)}
theorem ygu (hi:i+1<S.length)(hi2:i<=1000)(hS:S[i+1].length<=1000000)(hSc:∀ c∈S[i+1],CS R c)(hl:l.length<=1000000)(hs:∀ c∈l,CS R c):∀ (m k:Nat),k<=l.length->l.length<m+k->∃ y:Int,z3k N0 (i:Int) ⟨S⟩ R l (some (-1)) m (k:Int)=some y/\(y<0 ↔ (l.drop k).all (zvw R S[i+1])=true)
 |0,k,h1,h2=>by omega
 |m+1,k,h1,h2=>by
  unfold z3k ze1
  simp only [length_map,z0d]
  by_cases h:k<l.length
  ·obtain ⟨y,y1,y2⟩:=ygu hi hi2 hS hSc hl hs m (k+1) (by omega) (by omega)
   rw [if_pos (by omega),z0k h,z1s i (by omega),z0k hi,y5d hS hSc (hs _ (getElem_mem h)),z04,z04,drop_eq_getElem_cons h,z1s k (by omega),all_cons]
   cases hc:zvw R S[i+1] l[k]
   ·rw [show (!false)=true from rfl,z4u];exact ⟨k,rfl,by simp⟩
   ·rw [show (!true)=false from rfl,z5d];simp_all
  ·rw [if_neg (by omega),drop_eq_nil_of_le (by omega)]
   exact ⟨-1,rfl,by simp⟩
theorem ygz (hi:i+1<S.length)(hi2:i<=1000)(hS:S[i+1].length<=1000000)(hSc:∀ c∈S[i+1],CS R c)(hl:l.length<=1000000)(hs:∀ c∈l,CS R c):z8g N0 l R ⟨S⟩ (i:Int)=some (!l.all (zvw R S[i+1])):=by
 obtain ⟨y,y1,y2⟩:=ygu hi hi2 hS hSc hl hs N0 0 (Nat.zero_le _) (by unfold N0;omega)
 unfold z8g zc9
 have e:z3k N0 (i:Int) ⟨S⟩ R l (some (-1)) N0 0=some y:=by simpa using y1
 rw [e,z04]
 grind
theorem ype (a:Aut)(held:List Ev)(c:Cf)(e:Ev):(cfN a held [c] e).length<=a.fEdges.length+1:=by
 unfold cfN
 refine Nat.le_trans (zr9 _) ?_
 have:=zmy (a:=a) (held:=held) (c:=c) (e:=e)
 have h2:(cfO (zhp a held c e)).length<=(zhp a held c e).length:=by unfold cfO;exact length_filter_le _ _
 simp
 omega
noncomputable def okC (a:Aut)(l:List Ev)(S:List (List Cf))(i:Nat)(e:Ev)(c:Cf):Bool:=(maN a l [c] e).isEmpty && (cfN a l [c] e).all (zvw (zeg a) (S.getD (i+1) []))
noncomputable def vOk (a:Aut)(l:List Ev)(S:List (List Cf)):List Ev->Nat->Bool
 |[],_=>true
 |e::r,i=>(S.getD i []).all (okC a l S i e) && vOk a l S r (i+1)
theorem zzb (a:Aut)(l:List Ev)(S:List (List Cf))(e:Ev)(r:List Ev)(i:Nat):vOk a l S (e::r) i=((S.getD i []).all (okC a l S i e) && vOk a l S r (i+1)):=rfl
structure zqm (a:Aut) (l:List Ev) (S:List (List Cf)):Prop where
 ln:S.length=l.length+1
 few:∀ i (hi:i<S.length),S[i].length<=4096
 gd:∀ i (hi:i<S.length),∀ c∈S[i],zn6 a l i c
theorem zqm.cs {l:List Ev}(h:GS a l)(hS:zqm a l S)(hi:i<S.length):∀ c∈S[i],CS (zeg a) c:=fun c hc=>(hS.gd i hi c hc).cs h (by have:=hS.ln;have:=h.len;omega)
theorem ybe {l:List Ev}(h:GS a l)(hS:zqm a l S)(hi:i<l.length)(hi1:i<S.length)(K:Option Int):∀ (m k:Nat),k<=S[i].length->S[i].length<m+k->z3a N0 ⟨S⟩ l a (zeg a,(i:Int)) l[i] S[i] K m (k:Int)=if (S[i].drop k).all (okC a l S i l[i])=true then K else some 18
 |0,k,h1,h2=>by omega
 |m+1,k,h1,h2=>by
  have hf:=hS.few i hi1
  have hln:=h.len
  have hsn:=hS.ln
  unfold z3a
  simp only [length_map,z0d,z0y,z24,z1d,z4r]
  by_cases hk:k<S[i].length
  ·have hc:=hS.gd i hi1 _ (getElem_mem hk)
   have hsl:∀ (K:List Ev->Option Int),sls l 0 (i:Int) K=K (l.take i):=fun K=>by
    have:=zl9 (l:=l) (a:=0) (b:=i) (Nat.zero_le _) (by omega) K
    simpa using this
   rw [if_pos (by omega),z0k hk,hsl,ykv h hi hc,z04,if_pos rfl,drop_eq_getElem_cons hk,all_cons,z1s k (by omega)]
   have ih:=ybe h hS hi hi1 K m (k+1) (by omega) (by omega)
   have hg:S.getD (i+1) []=S[i+1]'(by omega):=by rw [getD_eq_getElem?_getD,getElem?_eq_getElem (by omega)];rfl
   have hnx:=zn6.next h hi (cs:=[S[i][k]]) (fun c hc'=>by simp_all)
   by_cases hm:maN a l [S[i][k]] l[i]=[]
   ·have c233:=ygz (R:=zeg a) (S:=S) (l:=cfN a l [S[i][k]] l[i]) (i:=i) (by omega) (by omega) (by have:=hS.few (i+1) (by omega);omega) (hS.cs h (by omega)) (by have:=ype a l S[i][k] l[i];have:=h.edges;omega) (fun c hc'=>(hnx c hc').cs h (by omega))
    have hok:okC a l S i l[i] S[i][k]=(cfN a l [S[i][k]] l[i]).all (zvw (zeg a) (S[i+1]'(by omega))):=by unfold okC;rw [hm,hg];simp
    rw [hm,if_neg (by simp),c233,z04,hok]
    cases hb:(cfN a l [S[i][k]] l[i]).all (zvw (zeg a) (S[i+1]'(by omega)))
    ·rw [show (!false)=true from rfl,z4u];simp
    ·rw [show (!true)=false from rfl,z5d,Bool.true_and];exact ih
   ·have hok:okC a l S i l[i] S[i][k]=false:=by
     unfold okC
     rw [isEmpty_eq_false_iff.2 hm]
     rfl
    have:0<(maN a l [S[i][k]] l[i]).length:=length_pos_iff.2 hm
    rw [if_pos (by simp_all),z4u,hok,if_neg (by simp)]
  grind
theorem ybf {l:List Ev}(h:GS a l)(hS:zqm a l S):∀ (m i:Nat),i<=l.length->l.length<m+i->z4q N0 ⟨S⟩ l a (some 0) m (zeg a,(i:Int))=if vOk a l S (l.drop i) i=true then some 0 else some 18
 |0,i,h1,h2=>by omega
 |m+1,i,h1,h2=>by
  have hln:=h.len
  have hsn:=hS.ln
  unfold z4q
  simp only [length_map,z0d]
  by_cases hi:i<l.length
  ·have hi1:i<S.length:=by omega
   have hf:=hS.few i hi1
   rw [if_pos (by omega),z0k hi,z0k hi1,z1s i (by omega)]
   have l2:=ybe h hS hi hi1 (z4q N0 ⟨S⟩ l a (some 0) m (zeg a,((i+1:Nat):Int))) N0 0 (Nat.zero_le _) (by unfold N0;omega)
   refine (l2).trans ?_
   have hg:S.getD i []=S[i]:=by rw [getD_eq_getElem?_getD,getElem?_eq_getElem hi1];rfl
   rw [ybf h hS m (i+1) (by omega) (by omega),drop_zero,drop_eq_getElem_cons hi]
   rw [zzb,hg]
   grind
  ·rw [if_neg (by omega),drop_eq_nil_of_le (by omega)]
   rfl
theorem cs0 {l:List Ev}(h:GS a l):CS (zeg a) cf0:=(gd0 h).cs h (by omega)
theorem yku {l:List Ev}(h:GS a l)(hS:zqm a l S)(hf:zcl N0 a l ⟨S⟩=some 0):z68 N0 a l ⟨S⟩=some (if (zvw (zeg a) (S.getD 0 []) cf0 && vOk a l S l 0)=true then 0 else 18):=by
 have hln:=h.len
 have hsn:=hS.ln
 have h0:0<S.length:=by omega
 have hg:S.getD 0 []=S[0]:=by rw [getD_eq_getElem?_getD,getElem?_eq_getElem h0];rfl
 have hck:=y5f h l.length
 rw [take_length] at hck
 have hr:za0 N0 a=some (zeg a):=by
  unfold za0
  rw [ydv h.wf h.ok (fun x hx=>(h.wf.ed x hx).lc),z04]
 have hi0:∀ (K:List Cf->Option Int),idx S 0 K=K S[0]:=fun K=>by
  have:=z0k (l:=S) (i:=0) h0 K
  simpa using this
 have l1:=ybf h hS N0 0 (Nat.zero_le _) (by unfold N0;omega)
 have l1':z4q N0 ⟨S⟩ l a (some 0) N0 (zeg a,0)=if vOk a l S l 0=true then some 0 else some 18:=by simpa using l1
 unfold z68
 have hf0:=hS.few 0 h0
 have e0:zfj N0=some cf0:=rfl
 rw [hck,z04,z0y,z0d,if_pos rfl,hf,z04,z0y,z0d,if_pos rfl,hr,z8e,yck,yck,z1d,hi0,e0,z04,y5d (by omega) (hS.cs h h0) (cs0 h),z04,l1',hg]
 cases zvw (zeg a) S[0] cf0
 ·rw [show (!false)=true from rfl,z4u];simp
 ·rw [show (!true)=false from rfl,z5d]
  cases vOk a l S l 0<;>simp
theorem yms {α:Type}[DecidableEq α]:∀ {l m:List α},l.Nodup->(∀ x∈l,x∈m)->l.length<=m.length
 |[],m,_,_=>by simp
 |x::r,m,h1,h2=>by
  have hx:=h2 x (by simp)
  have h3:=nodup_cons.1 h1
  have ih:=yms (m:=m.erase x) h3.2 (fun y hy=>(mem_erase_of_ne (fun e=>h3.1 (by rw [<-e];exact hy))).2 (h2 y (mem_cons_of_mem _ hy)))
  rw [length_erase_of_mem hx] at ih
  have:0<m.length:=length_pos_of_mem hx
  simp only [length_cons]
  omega
theorem yq3 {α:Type}{c:α->α->Int}(h:TO c){l:List α}(hl:Str c l):l.Nodup:=by
 refine Pairwise.imp (fun {x y} hxy e=>?_) hl
 subst e
 have:=(h.zero x x).2 rfl
 omega
theorem yme {held:List Ev}:∀ (p r:List Ev) (cs:List Cf) (ms:List Ma),(wiP 150 a held (p++r) cs ms).2.2=true->(wiP 150 a held p cs ms).2.2=true
 |[],r,cs,ms,h=>rfl
 |f::p,r,cs,ms,h=>by
  rw [cons_append] at h
  unfold wiP at h ⊢
  split at h
  ·cases h
  ·rename_i q
   rw [if_neg q]
   exact yme p r _ _ h
noncomputable def xsI (a:Aut)(l:List Ev)(i:Nat):List Cf:=(wiP 150 a l (l.take i) [cf0] []).1
noncomputable def msI (a:Aut)(l:List Ev)(i:Nat):List Ma:=(wiP 150 a l (l.take i) [cf0] []).2.1
theorem ynh {l:List Ev}(h:GS a l)(i:Nat):wiP 150 a l (l.take i) [cf0] []=(xsI a l i,msI a l i,true):=by
 have h1:=h.sm
 rw [<-take_append_drop i l] at h1
 have h2:=yme (l.take i) (l.drop i) [cf0] [] (by rw [take_append_drop] at h1 ⊢;exact h1)
 unfold xsI msI
 rw [<-h2]
theorem zz9 (a:Aut)(l:List Ev):xsI a l 0=[cf0]/\msI a l 0=[]:=by unfold xsI msI;rw [take_zero];exact ⟨rfl,rfl⟩
theorem zru {l:List Ev}(h:GS a l)(hi:i<l.length):xsI a l (i+1)=cfN a l (xsI a l i) l[i]/\msI a l (i+1)=zki z7v (msI a l i) (maN a l (xsI a l i) l[i])/\(xsI a l (i+1)).length<=150/\(msI a l (i+1)).length<=150:=by
 have e:l.take (i+1)=l.take i++[l[i]]:=by rw [take_append_getElem]
 have h1:=ynh h (i+1)
 rw [e] at h1
 obtain ⟨x,m,q1,q2,q3,q4⟩:=yaz (l.take i) [cf0] [] (by rw [h1])
 rw [ynh h i] at q1
 injection q1 with w1 w2
 injection w2 with w2 _
 rw [<-w1] at q2 q3 q4
 rw [<-w2] at q2 q4
 rw [h1] at q2
 injection q2 with v1 v2
 injection v2 with v2 _
 rw [<-v1] at q3
 rw [<-v2] at q4
 exact ⟨v1,v2,q3,q4⟩
theorem ypy {l:List Ev}(h:GS a l)(hi:i<=l.length):(xsI a l i).length<=150:=by
 cases i with
 |zero=>rw [(zz9 a l).1];simp
 |succ i=>exact (zru h (by omega)).2.2.1
theorem yni {l:List Ev}(h:GS a l):∀ {i:Nat},i<=l.length->∀ c∈xsI a l i,zn6 a l i c
 |0,hi=>fun c hc=>by
  rw [(zz9 a l).1] at hc
  rw [mem_singleton.1 hc]
  exact gd0 h
 |i+1,hi=>fun c hc=>by
  rw [(zru h (by omega)).1] at hc
  exact zn6.next h (by omega) (yni h (by omega)) c hc
theorem yma {held:List Ev}{cs xs:List Cf}(h:∀ c∈cs,c∈xs)(e:Ev):∀ d∈cfN a held cs e,d∈cfN a held xs e:=fun d hd=>by
 unfold cfN at hd ⊢
 rw [zfd cfCmp_to,mem_flatMap] at hd ⊢
 obtain ⟨c,h1,h2⟩:=hd
 exact ⟨c,h c h1,h2⟩
structure Sb (a:Aut) (l:List Ev) (i:Nat) (cs:List Cf):Prop where
 sub:∀ c∈cs,c∈xsI a l i
 str:Str zdi cs
theorem Sb.len {l:List Ev}(h:GS a l)(hi:i<=l.length){cs:List Cf}(hc:Sb a l i cs):cs.length<=150 :=
 Nat.le_trans (yms (yq3 cfCmp_to hc.str) hc.sub) (ypy h hi)
theorem Sb.gd {l:List Ev}(h:GS a l)(hi:i<=l.length){cs:List Cf}(hc:Sb a l i cs):∀ c∈cs,zn6 a l i c:=fun c hcc=>yni h hi c (hc.sub c hcc)
theorem Sb.next {l:List Ev}(h:GS a l)(hi:i<l.length){cs:List Cf}(hc:Sb a l i cs):Sb a l (i+1) (cfN a l cs l[i]) :=
 ⟨by rw [(zru h hi).1];exact yma hc.sub _,zkk cfCmp_to _⟩
theorem yek:z9u 2000000000=some true:=by kernel_rfl
theorem GS.of (hw:WfA a){l:List Ev}(h1:z9m N0 a l=some true)(h2:z6l N0 a l=some 0):GS a l:=by
 obtain ⟨b,b1,b2⟩:=ygb a hw l
 rw [h1] at b1
 obtain rfl:=Option.some.inj b1
 obtain ⟨hf,hl,q,hb,hs⟩:=b2 rfl
 have hq:q=0:=by
  have e:z2o N0 a l=z6l N0 a l:=by unfold z2o z6l;rfl
  rw [e,h2] at hb
  exact (Option.some.inj hb).symm
 obtain ⟨p,p1,p2⟩:=y9g a hw l (by omega)
 rw [hb] at p1
 obtain rfl:=Option.some.inj p1
 rcases p2 with ⟨h',_⟩|⟨_,ha,hso,hck,hst,_⟩
 ·exact absurd hq h'
 obtain ⟨r,r1,r2,r3⟩:=yc4 N0 (by decide) a hw
 rw [hck] at r1
 obtain rfl:=Option.some.inj r1
 exact ⟨hw,hf,ha,hck,r2,hst,hl,hs hq⟩
theorem yo2 {l:List Ev}(h:GS a l):zgq N0 a l=some (msI a l l.length,0)/\(∀ d∈msI a l l.length,zle d=true):=by
 have hln:=h.len
 obtain ⟨mp,hm,hbeg⟩:=h.begin l.length
 rw [take_length] at hm hbeg
 have e0:zjn z7v ([]:List Ma)=[]:=rfl
 have hsm:=h.sm
 obtain ⟨cs,all,a1,a2,a3,a4,a5,a6,a7⟩:=ybi (r:=⟨a,mp⟩) h.cx hm h.so.st h.edges (by omega) (fun y0 y1=>znl 62 (zb6 N0 y1) fun x47=>some (y0,x47,0)) N0 0 [cf0] [] (Nat.zero_le _) (by unfold N0;omega) (by simp) (by simp) (fun c hc=>by rw [mem_singleton.1 hc];exact cb0 h.ok) (by simp) (by rw [drop_zero,e0];exact hsm)
 rw [drop_zero,e0] at a2
 have a2':wiP 150 a l l [cf0] []=(cs,zjn z7v all,true):=a2
 have hx:=ynh h l.length
 rw [take_length,a2'] at hx
 injection hx with _ hx
 injection hx with hx _
 have hr:zms N0 a l=some (cs,zjn z7v all,0):=by
  unfold zms yk0
  rw [hbeg]
  simp only [z0y,z0d]
  have hB:zfj N0=some cf0:=rfl
  rw [if_pos trivial,hB,z04]
  refine a1.trans ?_
  rw [yg8 N0 (by decide) all a3 (by omega),z8e]
 unfold zgq
 rw [hr,z04,<-hx]
 exact ⟨rfl,yfk a3⟩
def NM (a:Aut)(l:List Ev)(i:Nat):Prop:=∀ j,i<=j->(hj:j<l.length)->maN a l (xsI a l j) l[j]=[]
theorem yg3 {s m:List Ma}:zki z7v s m=[] ↔ s=[]/\m=[]:=by
 constructor
 ·intro h
  have k:=fun z=>zkm zc3 z m s
  rw [h] at k
  exact ⟨eq_nil_iff_forall_not_mem.2 (fun z hz=>by simp_all),eq_nil_iff_forall_not_mem.2 (fun z hz=>by simp_all)⟩
 ·rintro ⟨rfl,rfl⟩
  rfl
theorem yr7 {l:List Ev}(h:GS a l):msI a l l.length=[] ↔ NM a l 0:=by
 have key:∀ i,i<=l.length->(msI a l i=[] ↔ ∀ j,(hj:j<l.length)->j<i->maN a l (xsI a l j) l[j]=[]):=by
  intro i
  induction i with
  |zero=>intro _;rw [(zz9 a l).2];simp
  |succ i ih =>
   intro hi
   rw [(zru h (by omega)).2.1,yg3,ih (by omega)]
   grind
 rw [key l.length (Nat.le_refl _)]
 exact ⟨fun hq j _ hj=>hq j hj hj,fun hq j hj _=>hq j (Nat.zero_le _) hj⟩
noncomputable def tS (f:List Cf->List Cf)(a:Aut)(l:List Ev):List Ev->List Cf->List (List Cf)
 |[],_=>[]
 |e::r,cs=>f (cfN a l cs e)::tS f a l r (f (cfN a l cs e))
structure Ch (a:Aut) (l:List Ev) (f:List Cf->List Cf):Prop where
 sub:∀ i cs,Sb a l i cs->Sb a l i (f cs)
 cov:∀ cs,∀ c∈cs,zvw (zeg a) (f cs) c=true
theorem y9e {l:List Ev}(h:GS a l):z8o N0 a l=some 0:=by
 have:=y5f h l.length
 simp_all
end Go.Proofs.YtidhlpjgifoneaaGreat
