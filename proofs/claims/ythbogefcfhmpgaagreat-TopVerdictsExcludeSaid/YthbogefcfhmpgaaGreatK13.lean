/- slices.SortFunc at structs, in its place. -/
import Derived.Shelf.SlSortCmp.NoneTotal
import Derived.Sort.OwnSorted
import Derived.Test.YthbogefcfhmpgaaGreatK12
set_option linter.unusedVariables false
set_option linter.unusedSimpArgs false
namespace Go.Proofs
open Go.Shelf
open List renaming getD_eq_getElem?_getD->aA,drop_eq_nil_of_le->aB,length_map->aC,getElem?_eq_getElem->aD,getElem_append_right->aJ,getElem_map->aQ,length_take->aU,map_cons->aW,getElem_mem->aY,length_cons->aZ,drop->bB,getElem_append_left->bC,getElem?_drop->bE,range->bF,length_nil->bR,getElem_cons_zero->cD,getElem_cons_succ->cE,drop_zero->cL,map_nil->dX
open IntKind renaming wrap->aE
open Nat renaming mul_le_mul_right->aF,succ_mul->aK,add_zero->dO
open _root_.Array renaming getElem?_eq_some_iff->aH
open Option renaming map_some->cS
open Int renaming natCast_zero->aP
open Option.some renaming injEq->aT
open Or renaming inl->bG,inr->cT
open Tryz renaming underlying281->bI,underlying308->bJ,underlying309->bK,underlying108->bL,underlying315->bM,underlying317->bN,underlying344->bO,underlying348->bP,underlying364->bQ,zeroValue281->bT,zeroValue308->bU,zeroValue309->bV,zeroValue108->bW,zeroValue315->bX,zeroValue317->bY,zeroValue344->bZ,zeroValue348->cA,zeroValue364->cB,underlying76->cC,underlying0->cF,underlying3->cG,underlying4->cH,underlying5->cI,underlying9->cJ,zeroValue76->cK,zeroValue0->cN,zeroValue3->cO,zeroValue4->cP,zeroValue5->cQ,zeroValue9->cR,sizeOf281->cU,sizeOf308->cV,sizeOf309->cW,sizeOf108->cX,sizeOf315->cY,sizeOf317->cZ,sizeOf344->dA,sizeOf348->dB,sizeOf364->dC,isAgg281->dD,isAgg308->dE,isAgg309->dF,isAgg108->dG,isAgg315->dH,isAgg317->dI,isAgg344->dJ,isAgg348->dK,isAgg364->dL,sizeOf76->dM,sizeOf0->dP,sizeOf3->dQ,sizeOf4->dR,sizeOf5->dS,sizeOf9->dU,isAgg76->dV,func125->dW,isAgg0->dZ,isAgg3->eA,isAgg4->eB,isAgg5->eC,isAgg9->eD,func64->eE
def Tryz.laysSlF06_f200_ren:Go.Shelf.Ren:=⟨fun|6=>200|15=>206|14=>251|28=>260|29=>261|20=>292|21=>293|22=>294|23=>295|24=>296|25=>297|26=>298|27=>299|46=>318|47=>301|48=>302|49=>319|50=>320|57=>335|n=>n,fun|22=>49|24=>90|25=>95|3=>3|39=>281|0=>0|53=>315|55=>317|4=>4|46=>309|45=>308|50=>108|5=>5|9=>9|66=>344|70=>348|76=>364|77=>76|n=>n,fun|n=>n⟩
theorem Tryz.laysSlF06_f200:Go.Proofs.SlLaysF0.n6 Tryz.prog Tryz.laysSlF06_f200_ren:={
 mixed:=by kernel_rfl
 f6:=⟨Tryz.f200.name,by decide,Tryz.func200.trans (congrArg some (by kernel_rfl))⟩
 f14:=⟨Tryz.f251.name,by decide,Tryz.func251.trans (congrArg some (by kernel_rfl))⟩
 f15:=Tryz.func206.trans (congrArg some (by kernel_rfl))
 f20:=⟨Tryz.f292.name,by decide,Tryz.func292.trans (congrArg some (by kernel_rfl))⟩
 f21:=⟨Tryz.f293.name,by decide,Tryz.func293.trans (congrArg some (by kernel_rfl))⟩
 f22:=⟨Tryz.f294.name,by decide,Tryz.func294.trans (congrArg some (by kernel_rfl))⟩
 f23:=⟨Tryz.f295.name,by decide,Tryz.func295.trans (congrArg some (by kernel_rfl))⟩
 f24:=⟨Tryz.f296.name,by decide,Tryz.func296.trans (congrArg some (by kernel_rfl))⟩
 f25:=⟨Tryz.f297.name,by decide,Tryz.func297.trans (congrArg some (by kernel_rfl))⟩
 f26:=⟨Tryz.f298.name,by decide,Tryz.func298.trans (congrArg some (by kernel_rfl))⟩
 f27:=⟨Tryz.f299.name,by decide,Tryz.func299.trans (congrArg some (by kernel_rfl))⟩
 f28:=Tryz.func260.trans (congrArg some (by kernel_rfl))
 f29:=Tryz.func261.trans (congrArg some (by kernel_rfl))
 f46:=⟨Tryz.f318.name,by decide,Tryz.func318.trans (congrArg some (by kernel_rfl))⟩
 f47:=Tryz.func301.trans (congrArg some (by kernel_rfl))
 f48:=Tryz.func302.trans (congrArg some (by kernel_rfl))
 f49:=⟨Tryz.f319.name,by decide,Tryz.func319.trans (congrArg some (by kernel_rfl))⟩
 f50:=⟨Tryz.f320.name,by decide,Tryz.func320.trans (congrArg some (by kernel_rfl))⟩
 f57:=⟨Tryz.f335.name,by decide,Tryz.func335.trans (congrArg some (by kernel_rfl))⟩
 t0:=cF
 a0:=dZ
 z0:=dP
 v0:=cN
 t3:=cG
 a3:=eA
 z3:=dQ
 v3:=cO
 t4:=cH
 a4:=eB
 z4:=dR
 v4:=cP
 t5:=cI
 a5:=eC
 z5:=dS
 v5:=cQ
 t9:=cJ
 a9:=eD
 z9:=dU
 v9:=cR
 t22:=Tryz.underlying49
 a22:=Tryz.isAgg49
 z22:=Tryz.sizeOf49
 v22:=Tryz.zeroValue49
 t25:=Tryz.underlying95
 a25:=Tryz.isAgg95
 z25:=Tryz.sizeOf95
 v25:=Tryz.zeroValue95
 t39:=bI
 a39:=dD
 z39:=cU
 v39:=bT
 t45:=bJ
 a45:=dE
 z45:=cV
 v45:=bU
 t46:=bK
 a46:=dF
 z46:=cW
 v46:=bV
 t50:=bL
 a50:=dG
 z50:=cX
 v50:=bW
 t53:=bM
 a53:=dH
 z53:=cY
 v53:=bX
 t55:=bN
 a55:=dI
 z55:=cZ
 v55:=bY
 t66:=bO
 a66:=dJ
 z66:=dA
 v66:=bZ
 t70:=bP
 a70:=dK
 z70:=dB
 v70:=cA
 t76:=bQ
 a76:=dL
 z76:=dC
 v76:=cB
 t77:=cC
 a77:=dV
 z77:=dM
 v77:=cK }
def Tryz.laysSlF06_f126_ren:Go.Shelf.Ren:=⟨fun|6=>126|15=>206|14=>205|28=>260|29=>261|20=>252|21=>253|22=>254|23=>255|24=>256|25=>257|26=>258|27=>259|46=>300|47=>301|48=>302|49=>303|50=>304|57=>321|n=>n,fun|22=>50|24=>64|25=>68|3=>3|39=>281|0=>0|53=>315|55=>317|4=>4|46=>309|45=>308|50=>108|5=>5|9=>9|66=>344|70=>348|76=>364|77=>76|n=>n,fun|n=>n⟩
theorem Tryz.laysSlF06_f126:Go.Proofs.SlLaysF0.n6 Tryz.prog Tryz.laysSlF06_f126_ren:={
 mixed:=by kernel_rfl
 f6:=⟨Tryz.f126.name,by decide,Tryz.func126.trans (congrArg some (by kernel_rfl))⟩
 f14:=⟨Tryz.f205.name,by decide,Tryz.func205.trans (congrArg some (by kernel_rfl))⟩
 f15:=Tryz.func206.trans (congrArg some (by kernel_rfl))
 f20:=⟨Tryz.f252.name,by decide,Tryz.func252.trans (congrArg some (by kernel_rfl))⟩
 f21:=⟨Tryz.f253.name,by decide,Tryz.func253.trans (congrArg some (by kernel_rfl))⟩
 f22:=⟨Tryz.f254.name,by decide,Tryz.func254.trans (congrArg some (by kernel_rfl))⟩
 f23:=⟨Tryz.f255.name,by decide,Tryz.func255.trans (congrArg some (by kernel_rfl))⟩
 f24:=⟨Tryz.f256.name,by decide,Tryz.func256.trans (congrArg some (by kernel_rfl))⟩
 f25:=⟨Tryz.f257.name,by decide,Tryz.func257.trans (congrArg some (by kernel_rfl))⟩
 f26:=⟨Tryz.f258.name,by decide,Tryz.func258.trans (congrArg some (by kernel_rfl))⟩
 f27:=⟨Tryz.f259.name,by decide,Tryz.func259.trans (congrArg some (by kernel_rfl))⟩
 f28:=Tryz.func260.trans (congrArg some (by kernel_rfl))
 f29:=Tryz.func261.trans (congrArg some (by kernel_rfl))
 f46:=⟨Tryz.f300.name,by decide,Tryz.func300.trans (congrArg some (by kernel_rfl))⟩
 f47:=Tryz.func301.trans (congrArg some (by kernel_rfl))
 f48:=Tryz.func302.trans (congrArg some (by kernel_rfl))
 f49:=⟨Tryz.f303.name,by decide,Tryz.func303.trans (congrArg some (by kernel_rfl))⟩
 f50:=⟨Tryz.f304.name,by decide,Tryz.func304.trans (congrArg some (by kernel_rfl))⟩
 f57:=⟨Tryz.f321.name,by decide,Tryz.func321.trans (congrArg some (by kernel_rfl))⟩
 t0:=cF
 a0:=dZ
 z0:=dP
 v0:=cN
 t3:=cG
 a3:=eA
 z3:=dQ
 v3:=cO
 t4:=cH
 a4:=eB
 z4:=dR
 v4:=cP
 t5:=cI
 a5:=eC
 z5:=dS
 v5:=cQ
 t9:=cJ
 a9:=eD
 z9:=dU
 v9:=cR
 t22:=Tryz.underlying50
 a22:=Tryz.isAgg50
 z22:=Tryz.sizeOf50
 v22:=Tryz.zeroValue50
 t25:=Tryz.underlying68
 a25:=Tryz.isAgg68
 z25:=Tryz.sizeOf68
 v25:=Tryz.zeroValue68
 t39:=bI
 a39:=dD
 z39:=cU
 v39:=bT
 t45:=bJ
 a45:=dE
 z45:=cV
 v45:=bU
 t46:=bK
 a46:=dF
 z46:=cW
 v46:=bV
 t50:=bL
 a50:=dG
 z50:=cX
 v50:=bW
 t53:=bM
 a53:=dH
 z53:=cY
 v53:=bX
 t55:=bN
 a55:=dI
 z55:=cZ
 v55:=bY
 t66:=bO
 a66:=dJ
 z66:=dA
 v66:=bZ
 t70:=bP
 a70:=dK
 z70:=dB
 v70:=cA
 t76:=bQ
 a76:=dL
 z76:=dC
 v76:=cB
 t77:=cC
 a77:=dV
 z77:=dM
 v77:=cK }
end Go.Proofs
namespace Go.Proofs.YthbogefcfhmpgaaGreat
open Go.RowKit List
open List renaming getD_eq_getElem?_getD->aA,drop_eq_nil_of_le->aB,length_map->aC,getElem?_eq_getElem->aD,getElem_append_right->aJ,getElem_map->aQ,getElem?_take_of_lt->aR,length_take->aU,getElem?_toArray->aV,map_cons->aW,getElem_mem->aY,length_cons->aZ,drop->bB,getElem_append_left->bC,pairwise_cons->bD,getElem?_drop->bE,range->bF,length_nil->bR,getElem_cons_zero->cD,getElem_cons_succ->cE,drop_zero->cL,map_nil->dX
open IntKind renaming wrap->aE
open Nat renaming mul_le_mul_right->aF,succ_mul->aK,mul_comm->aM,div_lt_of_lt_mul->aX,div_add_mod->cM,add_zero->dO
open _root_.Array renaming getD_eq_getD_getElem?->aG,getElem?_eq_some_iff->aH,getElem?_toList->aN,getElem?_modify->aO,getElem?_eq_getElem->aS,length_toList->bA,extract_size->bH
open Option renaming getD_some->aL,map_some->cS
open Int renaming natCast_zero->aP
open Option.some renaming injEq->aT
open Or renaming inl->bG,inr->cT
open Tryz renaming underlying281->bI,underlying308->bJ,underlying309->bK,underlying108->bL,underlying315->bM,underlying317->bN,underlying344->bO,underlying348->bP,underlying364->bQ,zeroValue281->bT,zeroValue308->bU,zeroValue309->bV,zeroValue108->bW,zeroValue315->bX,zeroValue317->bY,zeroValue344->bZ,zeroValue348->cA,zeroValue364->cB,underlying76->cC,underlying0->cF,underlying3->cG,underlying4->cH,underlying5->cI,underlying9->cJ,zeroValue76->cK,zeroValue0->cN,zeroValue3->cO,zeroValue4->cP,zeroValue5->cQ,zeroValue9->cR,sizeOf281->cU,sizeOf308->cV,sizeOf309->cW,sizeOf108->cX,sizeOf315->cY,sizeOf317->cZ,sizeOf344->dA,sizeOf348->dB,sizeOf364->dC,isAgg281->dD,isAgg308->dE,isAgg309->dF,isAgg108->dG,isAgg315->dH,isAgg317->dI,isAgg344->dJ,isAgg348->dK,isAgg364->dL,sizeOf76->dM,sizeOf0->dP,sizeOf3->dQ,sizeOf4->dR,sizeOf5->dS,sizeOf9->dU,isAgg76->dV,func125->dW,isAgg0->dZ,isAgg3->eA,isAgg4->eB,isAgg5->eC,isAgg9->eD,func64->eE
open Go.Sort (SWO PermIn SortedIn HoldsK flatK putRowK putRow putCells grow mapBlock onCells size_flatK get_flatK heap_grow_old)
section
variable {T:Type}
def insF (cmp:T->T->Int)(x:T):List T->List T
 |[]=>[x]
 |y::l=>match ltOf cmp y x with
  |true=>y::insF cmp x l
  |false=>x::y::l
def Ew (cmp:T->T->Int):List T->List T |[]=>[] |x::l=>insF cmp x (Ew cmp l)
def Tc [DecidableEq T](cmp:T->T->Int)(n:Nat)(l:List T):Option (List T) :=
 if l.length<=1000000000/\∀ x∈l,∀ y∈l,ltOf cmp x y=false->ltOf cmp y x=false->x=y then some (Ew cmp l) else none
theorem zhs (cmp:T->T->Int)(x:T):∀ l:List T,(insF cmp x l).Perm (x::l)
 |[]=>.refl _
 |y::l=>by
  unfold insF;cases ltOf cmp y x with
  |true=>exact ((zhs cmp x l).cons y).trans (.swap x y l)
  |false=>exact .refl _
theorem N7 (cmp:T->T->Int):∀ l:List T,(Ew cmp l).Perm l
 |[]=>.refl _
 |x::l=>(zhs cmp x _).trans ((N7 cmp l).cons x)
variable {cmp:T->T->Int}
theorem zhr (b:SWO (ltOf cmp))(x:T):∀ l:List T,l.Pairwise (fun x y=>ltOf cmp y x=false)->(insF cmp x l).Pairwise (fun x y=>ltOf cmp y x=false)
 |[],_=>by simp [insF]
 |y::l,h=>by
  obtain ⟨h1,i⟩:=bD.1 h;unfold insF;cases d:ltOf cmp y x with
  |true =>
   refine bD.2 ⟨fun z a=>?_,zhr b x l i⟩;rcases mem_cons.1 ((zhs cmp x l).mem_iff.1 a) with a|a
   ·subst a;cases e:ltOf cmp z y with
    |false=>rfl
    |true=>have:=b.trans _ _ _ d e;rw [b.irrefl] at this;cases this
   ·exact h1 z a
  |false =>
   refine bD.2 ⟨fun z a=>?_,h⟩;rcases mem_cons.1 a with a|a
   ·subst a;exact d
   ·exact b.ntrans _ _ _ (h1 z a) d
theorem zaq (a:SWO (ltOf cmp)):∀ l:List T,(Ew cmp l).Pairwise (fun x y=>ltOf cmp y x=false)
 |[]=>.nil
 |x::l=>zhr a x _ (zaq a l)
theorem zzj (m:SWO (ltOf cmp)){l d:List T}(h:∀ x∈l,∀ y∈l,ltOf cmp x y=false->ltOf cmp y x=false->x=y)(e:d.Perm l)(i:d.Pairwise (fun x y=>ltOf cmp y x=false)):d=Ew cmp l :=
 Perm.eq_of_pairwise (le:=fun x y=>ltOf cmp y x=false) (fun a b k j h1 o=>h a (e.mem_iff.1 k) b ((N7 cmp l).mem_iff.1 j) o h1) i (zaq m l) (e.trans (N7 cmp l).symm)
end
theorem zmm {w w':World}(h:Below w.heap.size w w')(e:w.drawn<=w'.drawn):∃ q i,w'=grow (w.drewN q) i:=by
 refine ⟨w'.drawn-w.drawn,w'.heap.extract w.heap.size w'.heap.size,?_⟩;obtain ⟨a,tape',drawn',b,output'⟩:=w';have p:b=w.os:=h.os;have o:tape'=w.tape:=h.tape;have m:output'=w.output:=h.output;have r:w.heap.size<=a.size:=h.size;have l:∀ k,k<w.heap.size->a[k]? = w.heap[k]? := h.block;have e:w.drawn<=drawn':=e;subst p o m;have eh:a=w.heap++a.extract w.heap.size a.size:=by
  apply Array.ext_getElem?;intro k;by_cases d:k<w.heap.size
  ·rw [Array.getElem?_append_left d];exact l k d
  ·rw [Array.getElem?_append_right (by omega),Array.getElem?_extract];by_cases j:k<a.size
   ·rw [if_pos (by omega)];congr 1;omega
   ·rw [if_neg (by omega),Array.getElem?_eq_none (by omega)]
 have ed:drawn'=w.drawn+(drawn' - w.drawn):=by omega
 simp only [grow,World.drewN];congr 1
theorem y3m (F a:Array Value)(h:F.size<=a.size):(putCells id 0 F a).toList.take F.size=F.toList:=by
 apply ext_getElem?;intro j;by_cases b:j<F.size
 ·rw [aR b,aN];simp [putCells,b,show j<a.size by omega]
 ·rw [getElem?_take_eq_none (by omega),getElem?_eq_none (by simp;omega)]
abbrev SEl (w:World)(S:Nat->Prop)(sz:Nat){T:Type}(encT:T->AV):Type:={ p:List Value×T // p.1.length=sz/\(∀ v∈p.1,v.oneCell'=true)/\Rep w S G0 (encT p.2) (.agg p.1.toArray) }
variable {α:Type}
theorem zwt [Inhabited α](enc:α->List Value)(sz:Nat)(l:∀ x,(enc x).length=sz)(d:Array α)(k j:Nat)(b:k<d.size)(e:j<sz):(flatK enc sz d).toList.getD (k*sz+j) undef=(enc d[k]!).getD j undef:=by
 have a:k*sz+j<d.size*sz:=by
  have:(k+1)*sz<=d.size*sz:=aF _ b;rw [aK] at this;omega
 have h1:=get_flatK enc sz d (k*sz+j) a;have o:(k*sz+j) / sz=k:=by rw [aM,Nat.mul_add_div (by omega),Nat.div_eq_of_lt e,dO]
 have m:(k*sz+j) % sz=j:=by rw [aM,Nat.mul_add_mod,Nat.mod_eq_of_lt e]
 rw [o,m] at h1;have i:k*sz+j<(flatK enc sz d).size:=by rw [size_flatK];exact a
 rw [aA,aN,aS i,aL,<-getElem!_pos (flatK enc sz d) _ i,h1];have h:j<(enc d[k]!).length:=by rw [l];exact e
 rw [getElem!_pos (enc d[k]!) j h,aA,aD h,aL]
variable {E:Env}{ty sz n:Nat}
theorem zv7 {Ed:Env}{f g:Nat}{T:Type}[DecidableEq T]{encT:T->AV}{cmp:T->T->Int}{l F:List T}(hP:Ed.P=E.P)(bz:Ed.dr=true)(he:Cg E f)(ci:Cg E g)(ah:0<sz)
  (V:∀ x,∃ cs,encT x=.agg cs/\cs.length=sz)
  (ai:∀ (α:Type) [Inhabited α] (enc:α->List Value) (J:∀ x,(enc x).length=sz) (h1:∀ x,∀ v∈enc x,v.oneCell'=true) (cf:α->α->Int) (hO:SWO (ltOf cf)) (blk off o:Nat) (d:Array α) (w:World)
    (af:CmpLays E.P g #[] enc sz cf blk off d.size w) (hH:HoldsK enc sz w blk off d) (U:blk<w.heap.size) (ah:d.size<4611686018427387904),
    Calls E.P f #[.slice (some ⟨blk,off,none⟩) d.size o,.func (.func g) #[] #[]] w fun e w'=>e=.returned (.tuple #[])/\∃ a n os,PermIn 0 d.size d a/\SortedIn (ltOf cf) 0 d.size a/\w'=sortWorldK enc sz w blk off n a os)
  (al:∀ (p:Option Addr) (o:Nat) (fv:Value) (w:World),Calls E.P f #[.slice p 0 o,fv] w fun e w'=>e=.returned (.tuple #[])/\w'=w)
  (hc:∀ x y,Con Ed true g [encT x,encT y] (.int .i64 (cmp x y))) (hO:SWO (ltOf cmp)) (hF:Tc cmp n l=some F) :
  ConC true E f [.row 0,.fn g []] ty sz (l.map encT) ty sz (F.map encT) (.tup []):=by
 unfold Tc at hF;split at hF;rotate_left
 ·cases hF
 rename_i ar;obtain ⟨ce,ag⟩:=ar;injection hF with hF
 refine ⟨he,rfl,fun S w0 w vs v us ck C cb bj ad an bg au=>?_⟩
 -- the arguments
 have ha:=au (fun i=>if i=0 then some (some (v.ownBlock,v)) else none) rfl;have h0:=(ha 0 (by simp)).row_inv (g:=v.ownBlock) (s:=v) rfl (Gf (D3 C));obtain ⟨cs,h1,B,_⟩:=(ha 1 (by simp)).fn_inv;have bd:cs=#[]:=Array.eq_empty_of_size_eq_zero B;subst bd;have evs:vs=#[v,.func (.func g) #[] #[]]:=by
  have:=ybv bg;rw [h0,h1] at this;exact this
 rw [evs];clear ha h0 h1 evs;have H:(l.map encT).length=l.length:=aC _;have r:F.length=l.length:=by rw [<-hF];exact (N7 cmp l).length_eq
 -- no element
 have empty:l=[]->Calls E.P f #[v,.func (.func g) #[] #[]] w fun e w'=>∃ u v' us',e=.returned u/\w.grownBy w' v.ownBlock/\w'.ownsRow w0.heap.size ty sz v' (F.map encT).length us'/\(true=true->v'=v)/\(∀ b,v'.ownBlock=some b->v.ownBlock=some b\/w.heap.size<=b)/\(∀ k (J:k<(F.map encT).length),((F.map encT)[k]).cells.length=sz) /\
   (∀ k (J:k<(F.map encT).length) j (D:j<((F.map encT)[k]).cells.length),Rep w' (fun b=>(S b\/w.heap.size<=b)/\v'.ownBlock≠some b) G0 (((F.map encT)[k]).cells[j]) (us'.getD (k*sz+j) undef))/\(∀ u∈us',u.oneCell'=true) /\
   ∀ γ':Gam,γ' 0=some (some (v'.ownBlock,v'))->Rep w' (fun b=>(S b\/w.heap.size<=b)/\v'.ownBlock≠some b) γ' (.tup []) u:=fun h0=>by
  have W:F=[]:=by rw [<-hF,h0];simp [Ew]
  subst W;subst h0;have L:∃ p o,v=.slice p 0 o:=by
   rcases C.2 with ⟨L,_⟩|⟨b,o,av,L,_⟩
   ·exact ⟨none,0,L⟩
   ·exact ⟨_,o,L⟩
  obtain ⟨p,o,L⟩:=L;have t:=al p o (.func (.func g) #[] #[]) w;rw [<-L] at t;refine t.mono ?_;rintro e w' ⟨rfl,rfl⟩;exact ⟨_,v,us,rfl,World.grownBy.refl _ _,C,fun _=>rfl,fun b Z=>bG Z,fun k J=>absurd J (by simp),fun k J=>absurd J (by simp),ad,fun γ' _=>.tup #[] rfl (fun i hi=>absurd hi (by simp))⟩
 by_cases W:l=[]
 ·exact empty W
 have bm:0<l.length:=length_pos_iff.2 W;rcases C.2 with ⟨_,h0⟩|⟨blk,o,av,L,bw,hh,hn,hm,hs,ht⟩
 ·omega
 have U:blk<w.heap.size:=(aH.1 hh).1;have ak:v.ownBlock=some blk:=by rw [L];rfl
 have ca:us.length=l.length*sz:=by rw [C.1,H]
 have ch:∀ k j,k<l.length->j<sz->k*sz+j<l.length*sz:=fun k j J D=>by
  have:(k+1)*sz<=l.length*sz:=aF _ J;rw [aK] at this;omega
 -- the elements
 have aq:∀ i (hi:i<l.length),((us.drop (i*sz)).take sz).length=sz/\(∀ v∈(us.drop (i*sz)).take sz,v.oneCell'=true)/\Rep w S G0 (encT l[i]) (.agg ((us.drop (i*sz)).take sz).toArray):=fun i hi=>by
  have Q:((us.drop (i*sz)).take sz).length=sz:=by
   rw [aU,length_drop];have:(i+1)*sz<=l.length*sz:=aF _ hi;rw [aK] at this;omega
  have O:∀ v∈(us.drop (i*sz)).take sz,v.oneCell'=true:=fun v L=>ad v (mem_of_mem_drop (mem_of_mem_take L))
  refine ⟨Q,O,?_⟩;obtain ⟨cs,B,Y⟩:=V l[i];rw [B];have bb:∀ j,j<sz->((us.drop (i*sz)).take sz).toArray.getD j undef=us.getD (i*sz+j) undef:=fun j D=>by
   rw [aG,aV,aR D,bE,aA]
  refine .agg _ (by simpa [Y] using Q) (fun j D=>?_) (fun j D=>?_)
  ·rw [bb j (by omega)];have br:i<(l.map encT).length:=by rw [H];exact hi
   have e:(l.map encT)[i]=.agg cs:=by rw [aQ];exact B
   have:=bj i br j (by rw [e];exact D);simp only [e,AV.cells] at this;exact this
  ·have G:j<((us.drop (i*sz)).take sz).length:=by simpa using D
   rw [aG,aV,aD G,aL];exact O _ (aY G)
 let A:=SEl w S sz encT;let enc:A->List Value:=fun p=>p.1.1
 let d:Array A:=(ofFn fun i:Fin l.length=>(⟨((us.drop (i.1*sz)).take sz,l[i.1]),aq i.1 i.2⟩:A)).toArray
 haveI:Inhabited A:=⟨⟨((us.drop (0*sz)).take sz,l[0]),aq 0 bm⟩⟩
 have K:d.size=l.length:=by simp [d]
 have bv:∀ i (hi:i<l.length),d[i]! = ⟨((us.drop (i*sz)).take sz,l[i]),aq i hi⟩:=fun i hi=>by
  rw [getElem!_pos d i (by rw [K];exact hi)];simp [d]
 have J:∀ x:A,(enc x).length=sz:=fun x=>x.2.1
 have af:CmpLays E.P g #[] enc sz (fun x y:A=>cmp x.1.2 y.1.2) blk 0 d.size w:=fun m os dk cj x y=>by
  have ae:=(hc x.1.2 y.1.2).2 S (sortWorldK enc sz w blk 0 m dk os) #[.agg (enc x).toArray,.agg (enc y).toArray] ⟨rfl,fun i hi=>?_⟩
  ·rw [hP] at ae;refine ae.mono ?_;rintro e w' ⟨u,rfl,⟨Z,bt⟩,hu⟩;exact ⟨by rw [hu.int_inv],zmm Z (bt bz)⟩
  ·have key:∀ z:A,Rep (sortWorldK enc sz w blk 0 m dk os) S G0 (encT z.1.2) (.agg (enc z).toArray):=fun z=>by
    refine z.2.2.2.mono ?_ (fun b hS Z=>⟨?_,hS⟩)
    ·simp [sortWorldK,grow,putRowK,putRow,mapBlock,Go.Sort.ahead]
    ·have am:blk≠b:=fun e=>an blk ak (e▸hS)
     unfold sortWorldK;rw [heap_grow_old _ _ (by simpa [putRowK,Go.Sort.ahead] using Z)];simp [putRowK,putRow,mapBlock,Go.Sort.ahead,aO,am]
   have ba:i<2:=hi;rcases i with _|_|i
   ·exact key x
   ·exact key y
   ·omega
 have hH:HoldsK enc sz w blk 0 d:=fun j D=>by
  have G:j<l.length*sz:=by rw [size_flatK,K] at D;exact D
  have hq:j / sz<l.length:=aX (by rwa [aM] at G);have hm:=Nat.mod_lt j ah;have e:=zwt enc sz J d (j / sz) (j % sz) (by rw [K];exact hq) hm;have ej:j / sz*sz+j % sz=j:=by rw [aM];exact cM j sz
  rw [ej] at e;have ef:(flatK enc sz d)[j]! = us.getD j undef:=by
   rw [getElem!_pos (flatK enc sz d) j D];have h1:(flatK enc sz d).toList.getD j undef=(flatK enc sz d)[j]:=by
    rw [aA,aN,aS D];rfl
   rw [<-h1,e,bv _ hq];show ((us.drop (j / sz*sz)).take sz).getD (j % sz) undef=us.getD j undef;rw [aA,aR hm,bE,ej,<-aA]
  rw [ef,Nat.zero_add];refine ⟨Nb C ak j (by rw [H];exact G),?_⟩;simp [World.frozen?,hh]
 have bx:SWO (ltOf fun x y:A=>cmp x.1.2 y.1.2):=⟨fun x=>hO.irrefl _,fun x y z=>hO.trans _ _ _,fun x y z=>hO.ntrans _ _ _⟩;have t:=ai A enc J (fun x=>x.2.2.1) (fun x y=>cmp x.1.2 y.1.2) bx blk 0 o d w af hH U (by rw [K];omega);have ev:v=.slice (some ⟨blk,0,none⟩) d.size o:=by rw [L,H,K]
 rw [<-ev] at t;refine t.mono ?_;rintro e w' ⟨rfl,a,m,os,⟨ax,_,ay⟩,bi,aw⟩;have R:a.size=l.length:=ax.trans K
 -- what lies there now
 have e1:a.extract 0 d.size=a:=by rw [<-ax];exact bH
 rw [e1,bH] at ay;have bu:d.toList.map (fun p=>p.1.2)=l:=by
  simp only [d,map_ofFn];apply ext_getElem
  ·simp
  ·intro i h1 h2;simp
 have aj:(a.toList.map (fun p=>p.1.2)).Perm l:=by
  have:=ay.map (fun p:A=>p.1.2)
  rwa [bu] at this
 have N:(a.toList.map (fun p=>p.1.2)).Pairwise (fun x y=>ltOf cmp y x=false):=by
  rw [pairwise_iff_getElem];intro i j hi D bs;have ba:i<a.size:=by simpa using hi
  have G:j<a.size:=by simpa using D
  have:=bi i j (Nat.zero_le _) bs (by rw [K,<-R];exact G);rw [getElem!_pos a i ba,getElem!_pos a j G] at this;simpa [ltOf] using this
 have bc:a.toList.map (fun p=>p.1.2)=F:=by rw [<-hF];exact zzj hO ag aj N
 have az:∀ k (I:k<F.length),∃ h:k<a.size,F[k]=a[k].1.2:=fun k I=>by
  have h:k<a.size:=by omega
  refine ⟨h,?_⟩;have:F[k]=(a.toList.map (fun p=>p.1.2))[k]'(by simpa using h):=by simp only [bc]
  rw [this];simp
 have ap:w.grownBy w' v.ownBlock:=by
  rw [ak,aw];refine ⟨rfl,rfl,rfl,by simp [sortWorldK,grow,putRowK,putRow,mapBlock,Go.Sort.ahead],fun k J am=>?_⟩;unfold sortWorldK;rw [heap_grow_old _ _ (by simpa [putRowK,Go.Sort.ahead] using J)];have:blk≠k:=fun e=>am (by rw [e])
  simp [putRowK,putRow,mapBlock,Go.Sort.ahead,aO,this]
 have aa:(flatK enc sz a).size=l.length*sz:=by rw [size_flatK,R]
 have bf:l.length*sz<=av.size:=by
  rw [hs];rw [H] at hn;exact aF _ hn
 have ao:w'.heap[blk]? = some (.cells (putCells id 0 (flatK enc sz a) av) ty (0,0)):=by
  rw [aw];unfold sortWorldK;rw [heap_grow_old _ _ (by simpa [putRowK,Go.Sort.ahead] using U)];simp [putRowK,putRow,mapBlock,Go.Sort.ahead,aO,hh,onCells]
 have ab:∀ k j,k<l.length->j<sz->(flatK enc sz a).toList.getD (k*sz+j) undef=(enc a[k]!).getD j undef:=fun k j I D=>zwt enc sz J a k j (by rw [R];exact I) D
 refine ⟨_,v,(flatK enc sz a).toList,rfl,ap,⟨by rw [bA,aa,aC,r],cT ⟨blk,o,_,?_,bw,ao,?_,hm,?_,?_⟩⟩,fun _=>rfl,fun b Z=>bG Z,fun k I=>?_,fun k I j D=>?_,fun u hu=>?_,fun γ' _=>.tup #[] rfl (fun i hi=>absurd hi (by simp))⟩
 ·rw [aC,r,L,H]
 ·rw [aC,r];rw [H] at hn;exact hn
 ·simp [putCells,hs]
 ·rw [aC,r,<-aa];exact y3m _ _ (by rw [aa];exact bf)
 ·rw [aQ];obtain ⟨cs,B,Y⟩:=V (F[k]'(by simpa using I));rw [B];exact Y
 ·have bp:k<F.length:=by simpa using I
  obtain ⟨bo,bn⟩:=az k bp;have e:(F.map encT)[k]=encT a[k].1.2:=by rw [aQ,bn]
  simp only [e] at D ⊢;obtain ⟨cs,B,Y⟩:=V a[k].1.2;have bq:j<sz:=by rw [B] at D;simp only [AV.cells] at D;omega
  rw [ab k j (by omega) bq,getElem!_pos a k bo];have ac:=a[k].2.2.2;rw [B] at ac;obtain ⟨cc,M,cd,bh,_⟩:=ac.agg_inv;injection M with M
  subst M;have:=bh j (by omega);simp only [B,AV.cells];rw [aG,aV,<-aA] at this;refine this.mono ap.size (fun b hS Z=>⟨ap.block b Z (fun e=>an b e.symm hS),bG hS,fun e=>an b e hS⟩)
 ·obtain ⟨q,hq,rfl⟩:=mem_iff_getElem.1 hu;have bl:q<l.length*sz:=by rw [bA,aa] at hq;exact hq
  have bk:q / sz<l.length:=aX (by rwa [aM] at bl);have hm:=Nat.mod_lt q ah;have:=ab (q / sz) (q % sz) bk hm;have ej:q / sz*sz+q % sz=q:=by rw [aM];exact cM q sz
  rw [ej,aA,aD hq,aL] at this;rw [this];have cg:=J a[q / sz]!;rw [aA,aD (by omega),aL];exact (a[q / sz]!).2.2.1 _ (aY _)
variable {f:FuncId}
theorem Con.lo {a:Bool}{avs:List AV}{res:AV}(h:Con E0d a f avs res):Con E0 a f avs res :=
 ⟨h.1,fun S w vs b=>(h.2 S w vs b).mono fun e w' ⟨v,h1,i,d⟩=>⟨v,h1,yc2 i.1,d⟩⟩
abbrev Bd:=Bf
abbrev Sta:=Ak
abbrev Ma:=Aa
abbrev Cf:=A1
theorem B4 (l:List α)(k:Nat)(h:k<l.length):l.drop k=l[k]::l.drop (k+1):=drop_eq_getElem_cons h
def cmpI (a b:Int):Int:=if a<b then -1 else if b<a then 1 else 0
def or2 (a b:Int):Int:=if a=0 then b else a
def or3 (a b c:Int):Int:=if a=0 then (if b=0 then c else b) else a
structure TO {α:Type} (c:α->α->Int):Prop where
 one:∀ a b,c a b=-1\/c a b=0\/c a b=1
 zero:∀ a b,c a b=0 ↔ a=b
 neg:∀ a b,c b a=- c a b
 trans:∀ a b d,c a b<0->c b d<0->c a d<0
theorem Hl:TO cmpI where
 one a b:=by unfold cmpI;split<;>(try split)<;>omega
 zero a b:=by unfold cmpI;split<;>(try split)<;>omega
 neg a b:=by unfold cmpI;omega
 trans a b d:=by unfold cmpI;omega
theorem TO.or2 {o γ:Type}{c:o->o->Int}{d:γ->γ->Int}(i:TO c)(l:TO d)(f:α->o)(g:α->γ)(hi:∀ a b,f a=f b->g a=g b->a=b):TO (fun a b=>or2 (c (f a) (f b)) (d (g a) (g b))) where
 one a b:=by
  unfold Proofs.YthbogefcfhmpgaaGreat.or2;split
  ·exact l.one _ _
  ·exact i.one _ _
 zero a b:=by
  unfold Proofs.YthbogefcfhmpgaaGreat.or2;split
  ·rename_i h;rw [l.zero];exact ⟨fun k=>hi a b ((i.zero _ _).1 h) k,fun k=>by rw [k]⟩
  ·rename_i h;exact ⟨fun k=>absurd k h,fun k=>absurd ((i.zero _ _).2 (by rw [k])) h⟩
 neg a b:=by
  unfold Proofs.YthbogefcfhmpgaaGreat.or2;rw [i.neg (f a) (f b),l.neg (g a) (g b)];omega
 trans a b e:=by
  unfold Proofs.YthbogefcfhmpgaaGreat.or2;intro h1 m;by_cases q:c (f a) (f b)=0
  ·rw [if_pos q] at h1;have p:=(i.zero _ _).1 q;rw [p];by_cases j:c (f b) (f e)=0
   ·rw [if_pos j] at m ⊢;exact l.trans _ _ _ h1 m
   omega
  ·rw [if_neg q] at h1;by_cases j:c (f b) (f e)=0
   ·have r:=(i.zero _ _).1 j;simp_all
   ·rw [if_neg j] at m;have:=i.trans _ _ _ h1 m;omega
theorem TO.map {i:Type}{c:i->i->Int}(e:TO c)(f:α->i)(hi:∀ a b,f a=f b->a=b):TO (fun a b=>c (f a) (f b)) where
 one a b:=e.one _ _
 zero a b:=⟨fun h=>hi _ _ ((e.zero _ _).1 h),fun h=>by rw [h];exact (e.zero _ _).2 rfl⟩
 neg a b:=e.neg _ _
 trans a b d:=e.trans _ _ _
def lexC (c:α->α->Int):List α->List α->Int |[],[]=>0 |[],_::_=>-1 |_::_,[]=>1 |a::x,b::y=>Proofs.YthbogefcfhmpgaaGreat.or2 (c a b) (lexC c x y)
theorem TO.lex {c:α->α->Int}(e:TO c):TO (lexC c) where
 one a b:=by
  induction a generalizing b with
  |nil=>cases b<;>simp [lexC]
  |cons x a i =>
   cases b with
   |nil=>simp [lexC]
   |cons y b =>
    unfold lexC Proofs.YthbogefcfhmpgaaGreat.or2;split
    ·exact i b
    ·exact e.one _ _
 zero a b:=by
  induction a generalizing b with
  |nil=>cases b<;>simp [lexC]
  |cons x a i =>
   cases b with
   |nil=>simp [lexC]
   |cons y b =>
    unfold lexC Proofs.YthbogefcfhmpgaaGreat.or2;by_cases h:c x y=0
    ·rw [if_pos h,i,(e.zero _ _).1 h];simp
    ·rw [if_neg h];exact ⟨fun k=>absurd k h,fun k=>by injection k with k _;exact absurd ((e.zero _ _).2 k) h⟩
 neg a b:=by
  induction a generalizing b with
  |nil=>cases b<;>simp [lexC]
  |cons x a i =>
   cases b with
   |nil=>simp [lexC]
   |cons y b =>
    unfold lexC Proofs.YthbogefcfhmpgaaGreat.or2;rw [e.neg x y,i b];omega
 trans a b d:=by
  induction a generalizing b d with
  |nil =>
   intro h1 j;cases b with
   |nil=>simp [lexC] at h1
   |cons y b=>cases d with
    |nil=>simp [lexC] at j
    |cons z d=>simp [lexC]
  |cons x a i =>
   intro h1 j;cases b with
   |nil=>simp [lexC] at h1
   |cons y b =>
    cases d with
    |nil=>simp [lexC] at j
    |cons z d =>
     unfold lexC Proofs.YthbogefcfhmpgaaGreat.or2 at h1 j ⊢;by_cases l:c x y=0
     ·rw [if_pos l] at h1;have p:=(e.zero _ _).1 l;grind
     ·rw [if_neg l] at h1;by_cases m:c y z=0
      ·have o:=(e.zero _ _).1 m;simp_all
      ·rw [if_neg m] at j;have:=e.trans _ _ _ h1 j;omega
section
variable {α:Type} {c:α->α->Int}
theorem TO.irr (h:TO c)(a:α):¬c a a<0:=by rw [(h.zero a a).2 rfl];decide
theorem TO.tri (h:TO c)(a b:α):c a b<0\/a=b\/c b a<0:=by
 have h1:=h.zero a b;have d:=h.neg a b;grind
theorem TO.swo (h:TO c):Go.Sort.SWO (ltOf c):=by
 have b:∀ x y,ltOf c x y=decide (c x y<0):=fun x y=>rfl
 refine ⟨fun x=>?_,fun x y z h1 a=>?_,fun x y z h1 a=>?_⟩<;>simp only [b,decide_eq_true_eq,decide_eq_false_iff_not] at *
 ·exact h.irr x
 ·exact h.trans _ _ _ h1 a
 ·intro d;rcases h.tri y x with k|k|k
  ·rcases h.tri z y with q|q|q
   ·exact h.irr x (h.trans _ _ _ (h.trans _ _ _ d q) k)
   all_goals grind
  all_goals simp_all
theorem TO.ties (h:TO c)(l:List α):∀ x∈l,∀ y∈l,ltOf c x y=false->ltOf c y x=false->x=y:=fun x _ y _ h1 a=>by
 have h1:¬c x y<0:=of_decide_eq_false h1;have a:¬c y x<0:=of_decide_eq_false a;rcases h.tri x y with k|k|k
 all_goals simp_all
end
def rCmp (a b:Bp):Int:=or3 (cmpI a.fTime b.fTime) (cmpI a.fSource b.fSource) (cmpI a.fSeq b.fSeq)
theorem Nr:TO rCmp:=(Hl.or2 (Hl.or2 Hl (fun p:Int×Int=>p.1) (fun p=>p.2) (fun a b h k=>Prod.ext h k)) (fun r:Bp=>r.fTime) (fun r=>(r.fSource,r.fSeq)) (fun a b h k=>by
 cases a;simp_all))
def Dl (a b:Bd):Int:=or2 (rCmp a.fRef b.fRef) (cmpI a.fVar b.fVar)
theorem zxe:TO Dl:=Nr.or2 Hl (fun b:Bd=>b.fRef) (fun b=>b.fVar) (fun a b h k=>by cases a;simp_all)
def Ef (a b:Sta):Int:=or2 (cmpI a.fScope b.fScope) (cmpI a.fTime b.fTime)
theorem y3p:TO Ef:=Hl.or2 Hl (fun b:Sta=>b.fScope) (fun b=>b.fTime) (fun a b h k=>by cases a;simp_all)
def B6 (a b:Ma):Int:=lexC Dl a.fBindings b.fBindings
theorem Cl:TO B6:=zxe.lex.map (fun m:Ma=>m.fBindings) (fun a b h=>by cases a;cases b;simp only at h;rw [h])
def Bi (a b:Cf):Int:=or3 (cmpI a.fState b.fState) (lexC Dl a.fBindings b.fBindings) (lexC Ef a.fStarts b.fStarts)
theorem cfCmp_to:TO Bi:=(Hl.or2 (zxe.lex.or2 y3p.lex (fun p:List Bd×List Sta=>p.1) (fun p=>p.2) (fun a b h k=>Prod.ext h k)) (fun c:Cf=>c.fState) (fun c=>(c.fBindings,c.fStarts)) (fun a b h k=>by
 cases a;simp_all))
theorem zmq (n:Nat)(a b:Int):Fb n a b=some (cmpI a b):=by
 unfold Fb Wn;simp only [A0,decide_true,Bool.not_true,Aw,A4,cmpI];split
 ·rfl
 ·split<;>rfl
theorem y1v (n:Nat)(a b:Int):Ge (n+3) [a,b]=some (or2 a b):=by
 have w0:aE .i64 ((0:Int)+1)=1:=by decide
 have w1:aE .i64 ((1:Int)+1)=2:=by decide
 unfold Ge or2;simp only [Sh,aW,dX,aZ,bR,A4,Am,w0,w1];simp only [idx];by_cases d:a=0
 ·by_cases e:b=0<;>simp [d,e]
 ·simp [d]
theorem y1u (n:Nat)(a b c:Int):Ge (n+4) [a,b,c]=some (or3 a b c):=by
 have w0:aE .i64 ((0:Int)+1)=1:=by decide
 have w1:aE .i64 ((1:Int)+1)=2:=by decide
 have h:aE .i64 ((2:Int)+1)=3:=by decide
 unfold Ge or3;simp only [Sh,aW,dX,aZ,bR,A4,Am,w0,w1,h];simp only [idx];by_cases d:a=0
 ·by_cases e:b=0
  ·by_cases i:c=0<;>simp [d,e,i]
  ·simp [d,e]
 ·simp [d]
theorem y54 (n:Nat)(a b:Bp):Wl (n+4) a b=some (rCmp a b):=by
 unfold Wl;simp only [A0,zmq,y1u];rfl
theorem yam (n:Nat)(a b:Bd):Vi (n+4) a b=some (Dl a b):=by
 unfold Vi;simp only [A0,zmq,y54,show n+4=(n+1)+3 from rfl,y1v];rfl
theorem yaj (n:Nat)(a b:Sta):W5 (n+4) a b=some (Ef a b):=by
 unfold W5;simp only [A0,zmq,show n+4=(n+1)+3 from rfl,y1v];rfl
theorem zl4 (n:Nat)(b a:List Bd)(i:b.length<=1000000000)(e:a.length<=1000000000):∀ (m k:Nat),k<=a.length->k<=b.length->a.length<m+k ->
  P3 (n+4) b a (if a.length<b.length then some (-1) else some 0) m k=some (lexC Dl (a.drop k) (b.drop k))
 |0,k,h1,_,j=>by omega
 |m+1,k,h1,l,j=>by
  unfold P3;simp only [aC,A4,Am];by_cases h:k<a.length
  ·rw [if_pos (by omega),Ae h,B4 a k h];by_cases d:b.length<=k
   ·rw [if_pos (by omega),aB d];rfl
   ·rw [if_neg (by omega),Ae (by omega:k<b.length),B4 b k (by omega)];rw [yam,A0,Ai k (by omega),zl4 n b a i e m (k+1) (by omega) (by omega) (by omega)];show _=some (or2 (Dl _ _) _);unfold or2;split<;>rfl
  ·rw [if_neg (by omega),aB (by omega:a.length<=k)];by_cases d:a.length<b.length
   ·rw [if_pos d,B4 b k (by omega)];rfl
   ·rw [if_neg d,aB (by omega)];rfl
theorem y8e (n:Nat)(a b:List Bd)(h:a.length<n)(i:4<=n)(e:b.length<=1000000000)(d:a.length<=1000000000):Uj n a b=some (lexC Dl a b):=by
 obtain ⟨m,rfl⟩:∃ m,n=m+4:=⟨n-4,by omega⟩;unfold Uj;have:=zl4 m b a e d (m+4) 0 (by omega) (by omega) (by omega);simp only [aP,cL] at this;rw [<-this];congr 1;simp only [aC,A4];split<;>split<;>first|rfl|omega
theorem zl3 (n:Nat)(b a:List Sta)(i:b.length<=1000000000)(e:a.length<=1000000000):∀ (m k:Nat),k<=a.length->k<=b.length->a.length<m+k ->
  Ob (n+4) b a (if a.length<b.length then some (-1) else some 0) m k=some (lexC Ef (a.drop k) (b.drop k))
 |0,k,h1,_,j=>by omega
 |m+1,k,h1,l,j=>by
  unfold Ob;simp only [aC,A4,Am];by_cases h:k<a.length
  ·rw [if_pos (by omega),Ae h,B4 a k h];by_cases d:b.length<=k
   ·rw [if_pos (by omega),aB d];rfl
   ·rw [if_neg (by omega),Ae (by omega:k<b.length),B4 b k (by omega)];rw [yaj,A0,Ai k (by omega),zl3 n b a i e m (k+1) (by omega) (by omega) (by omega)];show _=some (or2 (Ef _ _) _);unfold or2;split<;>rfl
  ·rw [if_neg (by omega),aB (by omega:a.length<=k)];by_cases d:a.length<b.length
   ·rw [if_pos d,B4 b k (by omega)];rfl
   ·rw [if_neg d,aB (by omega)];rfl
theorem y8d (n:Nat)(a b:List Sta)(h:a.length<n)(i:4<=n)(e:b.length<=1000000000)(d:a.length<=1000000000):Tw n a b=some (lexC Ef a b):=by
 obtain ⟨m,rfl⟩:∃ m,n=m+4:=⟨n-4,by omega⟩;unfold Tw;have:=zl3 m b a e d (m+4) 0 (by omega) (by omega) (by omega);simp only [aP,cL] at this;rw [<-this];congr 1;simp only [aC,A4];split<;>split<;>first|rfl|omega
theorem y6a (n:Nat)(a b:Ma)(e:a.fBindings.length<n)(i:4<=n)(h:b.fBindings.length<=1000000000)(d:a.fBindings.length<=1000000000):W7 n a b=some (B6 a b):=by
 unfold W7;rw [y8e n _ _ e i h d,A0];rfl
theorem y8c (n:Nat)(a b:Cf)(k:a.fBindings.length<n)(e:a.fStarts.length<n)(j:4<=n)(l:b.fBindings.length<=1000000000)(i:a.fBindings.length<=1000000000)(h:b.fStarts.length<=1000000000)(d:a.fStarts.length<=1000000000):z1t n a b=some (Bi a b):=by
 unfold z1t;rw [zmq,A0,y6a n _ _ k j l i,A0,y8d n _ _ e j h d,A0];obtain ⟨m,rfl⟩:∃ m,n=m+4:=⟨n-4,by omega⟩;rw [y1u,A0];rfl
theorem O2 (n:Nat)(a b:Int):D1 n a b=some (cmpI a b):=by
 unfold D1 X0;simp only [A0,decide_true,Bool.not_true,Aw,A4,cmpI];split
 ·rfl
 ·split<;>rfl
theorem yal (n:Nat)(a b:Int):Eo (n+3) [a,b]=some (or2 a b):=by
 have w0:aE .i64 ((0:Int)+1)=1:=by decide
 have w1:aE .i64 ((1:Int)+1)=2:=by decide
 unfold Eo or2;simp only [Sm,aW,dX,aZ,bR,A4,Am,w0,w1];simp only [idx];by_cases d:a=0
 ·by_cases e:b=0<;>simp [d,e]
 ·simp [d]
theorem y55 (n:Nat)(a b c:Int):Eo (n+4) [a,b,c]=some (or3 a b c):=by
 have w0:aE .i64 ((0:Int)+1)=1:=by decide
 have w1:aE .i64 ((1:Int)+1)=2:=by decide
 have h:aE .i64 ((2:Int)+1)=3:=by decide
 unfold Eo or3;simp only [Sm,aW,dX,aZ,bR,A4,Am,w0,w1,h];simp only [idx];by_cases d:a=0
 ·by_cases e:b=0
  ·by_cases i:c=0<;>simp [d,e,i]
  ·simp [d,e]
 ·simp [d]
theorem yak (n:Nat)(a b:Bp):Wt (n+4) a b=some (rCmp a b):=by
 unfold Wt;simp only [A0,O2,y55];rfl
theorem f_bd (n:Nat)(a b:Bd):W8 (n+4) a b=some (Dl a b):=by
 unfold W8;simp only [A0,O2,yak,show n+4=(n+1)+3 from rfl,yal];rfl
theorem f_st (n:Nat)(a b:Sta):Wh (n+4) a b=some (Ef a b):=by
 unfold Wh;simp only [A0,O2,show n+4=(n+1)+3 from rfl,yal];rfl
theorem zwy (n:Nat)(b a:List Bd)(i:b.length<=1000000000)(e:a.length<=1000000000):∀ (m k:Nat),k<=a.length->k<=b.length->a.length<m+k ->
  Q2 (n+4) b a (if a.length<b.length then some (-1) else some 0) m k=some (lexC Dl (a.drop k) (b.drop k))
 |0,k,h1,_,j=>by omega
 |m+1,k,h1,l,j=>by
  unfold Q2;simp only [aC,A4,Am];by_cases h:k<a.length
  ·rw [if_pos (by omega),Ae h,B4 a k h];by_cases d:b.length<=k
   ·rw [if_pos (by omega),aB d];rfl
   ·rw [if_neg (by omega),Ae (by omega:k<b.length),B4 b k (by omega)];rw [f_bd,A0,Ai k (by omega),zwy n b a i e m (k+1) (by omega) (by omega) (by omega)];show _=some (or2 (Dl _ _) _);unfold or2;split<;>rfl
  ·rw [if_neg (by omega),aB (by omega:a.length<=k)];by_cases d:a.length<b.length
   ·rw [if_pos d,B4 b k (by omega)];rfl
   ·rw [if_neg d,aB (by omega)];rfl
theorem ybz (n:Nat)(a b:List Bd)(h:a.length<n)(i:4<=n)(e:b.length<=1000000000)(d:a.length<=1000000000):V1 n a b=some (lexC Dl a b):=by
 obtain ⟨m,rfl⟩:∃ m,n=m+4:=⟨n-4,by omega⟩;unfold V1;have:=zwy m b a e d (m+4) 0 (by omega) (by omega) (by omega);simp only [aP,cL] at this;rw [<-this];congr 1;simp only [aC,A4];split<;>split<;>first|rfl|omega
theorem zwx (n:Nat)(b a:List Sta)(i:b.length<=1000000000)(e:a.length<=1000000000):∀ (m k:Nat),k<=a.length->k<=b.length->a.length<m+k ->
  Og (n+4) b a (if a.length<b.length then some (-1) else some 0) m k=some (lexC Ef (a.drop k) (b.drop k))
 |0,k,h1,_,j=>by omega
 |m+1,k,h1,l,j=>by
  unfold Og;simp only [aC,A4,Am];by_cases h:k<a.length
  ·rw [if_pos (by omega),Ae h,B4 a k h];by_cases d:b.length<=k
   ·rw [if_pos (by omega),aB d];rfl
   ·rw [if_neg (by omega),Ae (by omega:k<b.length),B4 b k (by omega)];rw [f_st,A0,Ai k (by omega),zwx n b a i e m (k+1) (by omega) (by omega) (by omega)];show _=some (or2 (Ef _ _) _);unfold or2;split<;>rfl
  ·rw [if_neg (by omega),aB (by omega:a.length<=k)];by_cases d:a.length<b.length
   ·rw [if_pos d,B4 b k (by omega)];rfl
   ·rw [if_neg d,aB (by omega)];rfl
theorem yby (n:Nat)(a b:List Sta)(h:a.length<n)(i:4<=n)(e:b.length<=1000000000)(d:a.length<=1000000000):U1 n a b=some (lexC Ef a b):=by
 obtain ⟨m,rfl⟩:∃ m,n=m+4:=⟨n-4,by omega⟩;unfold U1;have:=zwx m b a e d (m+4) 0 (by omega) (by omega) (by omega);simp only [aP,cL] at this;rw [<-this];congr 1;simp only [aC,A4];split<;>split<;>first|rfl|omega
theorem f_ma (n:Nat)(a b:Ma)(e:a.fBindings.length<n)(i:4<=n)(h:b.fBindings.length<=1000000000)(d:a.fBindings.length<=1000000000):S6 n a b=some (B6 a b):=by
 unfold S6;rw [ybz n _ _ e i h d,A0];rfl
theorem ybx (n:Nat)(a b:Cf)(k:a.fBindings.length<n)(e:a.fStarts.length<n)(j:4<=n)(l:b.fBindings.length<=1000000000)(i:a.fBindings.length<=1000000000)(h:b.fStarts.length<=1000000000)(d:a.fStarts.length<=1000000000):Wm n a b=some (Bi a b):=by
 unfold Wm;rw [O2,A0,f_ma n _ _ k j l i,A0,yby n _ _ e j h d,A0];obtain ⟨m,rfl⟩:∃ m,n=m+4:=⟨n-4,by omega⟩;rw [y55,A0];rfl
def cfOk (c:Cf):Bool:=decide (c.fBindings.length<=1000000000) && decide (c.fStarts.length<=1000000000)
def maOk (c:Ma):Bool:=decide (c.fBindings.length<=1000000000)
theorem Ee (c:Cf):cfOk c=true ↔ c.fBindings.length<=1000000000/\c.fStarts.length<=1000000000:=by simp [cfOk]
theorem Ec (c:Ma):maOk c=true ↔ c.fBindings.length<=1000000000:=by simp [maOk]
def Jp {T:Type}[DecidableEq T](ok:T->Bool)(cmp:T->T->Int)(n:Nat)(l:List T):Option (List T) :=
 if h:∀ x∈l,ok x=true then (Tc (fun a b:{ x:T // ok x=true }=>cmp a.1 b.1) n (l.attachWith (fun x=>ok x=true) h)).map (fun q=>q.map (·.1)) else none
section
variable {T:Type} [DecidableEq T]
omit [DecidableEq T] in
theorem zwr {U:Type}{d:U->U->Int}{c:T->T->Int}(f:U->T)(h:∀ a b,d a b=c (f a) (f b))(x:U):∀ l:List U,(insF d x l).map f=insF c (f x) (l.map f)
 |[]=>rfl
 |y::l=>by
  have e:ltOf d y x=ltOf c (f y) (f x):=by unfold ltOf;rw [h]
  simp only [insF,aW,e];cases ltOf c (f y) (f x) with
  |true=>simp only [aW,zwr f h x l]
  |false=>rfl
omit [DecidableEq T] in
theorem zow {U:Type}{d:U->U->Int}{c:T->T->Int}(f:U->T)(h:∀ a b,d a b=c (f a) (f b)):∀ l:List U,(Ew d l).map f=Ew c (l.map f)
 |[]=>rfl
 |x::l=>by simp only [Ew,aW,zwr f h,zow f h l]
variable {cmp:T->T->Int}
theorem zv8 {ok:T->Bool}(e:TO cmp)(n:Nat)(l:List T)(h:∀ x∈l,ok x=true)(i:l.length<=1000000000):Jp ok cmp n l=some (Ew cmp l):=by
 unfold Jp;rw [dif_pos h];have d:TO (fun a b:{ x:T // ok x=true }=>cmp a.1 b.1):=e.map (fun x:{ x:T // ok x=true }=>x.1) (fun a b h=>Subtype.ext h);unfold Tc;rw [if_pos ⟨by simp_all,d.ties _⟩];simp only [cS];rw [zow (c:=cmp) (fun x:{ x:T // ok x=true }=>x.1) (fun a b=>rfl),attachWith_map_subtype_val]
theorem zov {f g:Nat}{ok:T->Bool}{enc:T->AV}{l j:List T}(H:∀ {q i:List { x:T // ok x=true }},Tc (fun a b:{ x:T // ok x=true }=>cmp a.1 b.1) n q=some i->ConC true E0 f [.row 0,.fn g []] ty sz (q.map fun x=>enc x.1) ty sz (i.map fun x=>enc x.1) (.tup []))(d:Jp ok cmp n l=some j) :
  ConC true E0 f [.row 0,.fn g []] ty sz (l.map enc) ty sz (j.map enc) (.tup []):=by
 unfold Jp at d;split at d
 ·rename_i h;cases e:Tc (fun a b:{ x:T // ok x=true }=>cmp a.1 b.1) n (l.attachWith (fun x=>ok x=true) h) with
  |none=>rw [e] at d;cases d
  |some q =>
   rw [e] at d;injection d with d
   have:=H e;simp_all
 ·cases d
end
theorem zuj (a b:{ x:Cf // cfOk x=true }):Con E0d true 125 [A5 a.1,A5 b.1] (.int .i64 (Bi a.1 b.1)):=by
 obtain ⟨h1,h⟩:=(Ee a.1).1 a.2;obtain ⟨e,d⟩:=(Ee b.1).1 b.2;exact zf6 (y8c 1000000010 a.1 b.1 (by omega) (by omega) (by omega) e h1 d h)
theorem zui (a b:{ x:Ma // maOk x=true }):Con E0d true 64 [Ax a.1,Ax b.1] (.int .i64 (B6 a.1 b.1)):=by
 have h1:=(Ec a.1).1 a.2;have d:=(Ec b.1).1 b.2;exact z3j (y6a 1000000010 a.1 b.1 (by omega) (by omega) d h1)
theorem zxl {l m:List Cf}(t:Jp cfOk Bi n l=some m):ConC true E0 200 [.row 0,.fn 125 []] 90 3 (l.map A5) 90 3 (m.map A5) (.tup []) :=
 zov (fun o=>zv7 (Ed:=E0d) rfl rfl (Av Tryz.func200 rfl rfl) (Av dW rfl rfl) (by omega) (fun x=>⟨_,rfl,rfl⟩)
  (fun α _ enc q h1 cf r blk off e d w i s j k=>AnyQ.slices_SortFunc Tryz.laysSlF06_f200 3 Tryz.isAgg90 Tryz.sizeOf90 enc q h1 cf r 125 #[] blk off e d w (Av dW rfl rfl) i s j k)
  (fun p e fv w=>AnyF.slices_SortFunc_none Tryz.laysSlF06_f200 p e fv w) zuj (cfCmp_to.map (fun x:{ x:Cf // cfOk x=true }=>x.1) (fun a b h=>Subtype.ext h)).swo o) t
theorem zxk {l m:List Ma}(t:Jp maOk B6 n l=some m):ConC true E0 126 [.row 0,.fn 64 []] 64 1 (l.map Ax) 64 1 (m.map Ax) (.tup []) :=
 zov (fun o=>zv7 (Ed:=E0d) rfl rfl (Av Tryz.func126 rfl rfl) (Av eE rfl rfl) (by omega) (fun x=>⟨_,rfl,rfl⟩)
  (fun α _ enc q h1 cf r blk off e d w i s j k=>AnyQ.slices_SortFunc Tryz.laysSlF06_f126 1 Tryz.isAgg64 Tryz.sizeOf64 enc q h1 cf r 64 #[] blk off e d w (Av eE rfl rfl) i s j k)
  (fun p e fv w=>AnyF.slices_SortFunc_none Tryz.laysSlF06_f126 p e fv w) zui (Cl.map (fun x:{ x:Ma // maOk x=true }=>x.1) (fun a b h=>Subtype.ext h)).swo o) t
abbrev Cel (n:Nat):={ l:List Value // l.length=n/\∀ u∈l,u.oneCell'=true }
def encC (x:Cel n):List Value:=x.1
variable {P:Program}
theorem eokC {T e eb:Nat}{i ie:TyI}(l:TyOk P T i)(k:i.shape=.slc e sz eb)(d:TyOk P e ie)(h:0<sz)(a:ie.zero.cells.size=sz):EOk P T e sz ie.bytes (encC (n:=sz)):=by
 obtain ⟨j,b,_⟩:=Cs l k;obtain ⟨x,h1,p,o,m⟩:=d.both;exact ⟨j,⟨x,ie.zero,h1,m,by rw [p,<-d.cells,b],o,a⟩,h,fun x=>x.2.1,fun x=>x.2.2⟩
def C4 (n:Nat)(l:List α):Option (List α):=if l.length<=1000000000 then some l else none
theorem Je {e:Nat}(W:E.P=P)(Y:Cg E f)(any:∀ (l:List (Cel sz)) (S:Nat->Prop) (v:Value) (w:World),Sl w S sz encC v l->l.length<=1000000000->Calls P f #[v] w (Hn e sz encC l w)){enc:α->AV}{a r:List α}(t:C4 n a=some r) :
  ConT E f [.sl sz (List.map enc a)] e sz (List.map enc r) (.row 0):=by
 unfold C4 at t;split at t
 ·rename_i R;injection t with t
  subst t;refine .ofRow ⟨Y,fun S w vs ⟨Q,O⟩=>?_⟩;have e1:=ybw Q;have I:Rep w S G0 (.sl sz (List.map enc a)) (vs.getD 0 undef):=O 0 (by simp);rw [e1,W];obtain ⟨A,c,N,U,m,cell,G,F,h1⟩:=I.sl_inv;let l:List (Cel sz):=(bF (List.map enc a).length).map fun k=>⟨(bF sz).map fun j=>cell k j,by simp,fun u i=>by
   obtain ⟨j,_,rfl⟩:=mem_map.1 i;exact h1 k j⟩
  have d:l.length=(List.map enc a).length:=by simp [l]
  have y:∀ k (o:k<l.length),(encC l[k])=(bF sz).map fun j=>cell k j:=fun k o=>by simp [l,encC]
  have D:Sl w S sz encC (vs.getD 0 undef) l:=by
   refine ⟨A,c,by rw [N,d],by rw [d];exact U,fun I=>?_⟩;obtain ⟨b,off,Z,V,p,q⟩:=G (by rw [<-d];exact I);refine ⟨b,off,Z,V,p,fun k o j u i=>?_⟩;rw [y k o] at i;have s:j<sz:=by have:=(List.getElem?_eq_some_iff.1 i).1;simpa using this
   rw [getElem?_map,getElem?_range s] at i;simp only [cS,aT] at i;subst i;exact q k j (by rw [<-d];exact o) s
  refine (any l S _ w D (by rw [d,aC];exact R)).mono fun ed w' ⟨A',K,L,J,C⟩=>?_
  refine ⟨_,l.flatMap encC,L,C,?_,m,fun k o j s=>?_,fun u i=>?_⟩
  ·have:w'.ownsRow w.heap.size e sz (.slice A' l.length K) l.length (l.flatMap encC):=J;rw [d] at this;rw [d];exact this
  ·have B:j<sz:=by rw [m k o] at s;exact s
   have z:k<l.length:=by rw [d];exact o
   have H:=X2 (enc:=encC (n:=sz)) (fun x _=>x.2.1) k z j B (cell k j) (by rw [y k z,getElem?_map,getElem?_range B];rfl);rw [aA,H];refine (F k o j s).mono C.size (fun b G p=>⟨C.block b p,bG G,fun e=>?_⟩);have h2:w'.ownsRow w.heap.size _ sz (.slice A' l.length K) l.length (l.flatMap encC):=J;rcases h2.2 with ⟨h,_⟩|⟨g,ab,aa,h,hg,_⟩
   ·rw [h] at e;simp [Value.ownBlock] at e
   ·rw [h] at e;simp only [Value.ownBlock,aT] at e;subst e;omega
  ·obtain ⟨x,_,M⟩:=mem_flatMap.1 i;exact x.2.2 u M
 ·cases t
theorem ConT.close {args xs:List AV}(h:ConT E f args ty sz xs (.row 0))(q:E.dr=false):Con E false f args (.sl sz xs) :=
 ⟨h.1,fun S w vs p=>(h.2.2 S w vs p).mono fun e w' ⟨u,v,us,h1,z,j,y,x,t,r⟩=>by
  have o:=r (fun _=>some (some (v.ownBlock,v))) rfl;have k:u=v:=o.row_inv rfl (Gf (D3 j));subst k;refine ⟨u,h1,⟨z,fun h=>absurd (q.symm.trans h) (by simp)⟩,?_⟩;have i:Bo w' (fun b=>(S b\/w.heap.size<=b)/\u.ownBlock≠some b) G0 w.heap.size (some (u.ownBlock,u)) (.row ty sz xs):=⟨u,us,rfl,D3 j,j,y,x,t⟩;obtain ⟨s,d,l⟩:=Hm (S':=fun b=>(false=false/\S b)\/w.heap.size<=b) i (fun b m _=>m.1.elim (fun h=>bG ⟨rfl,h⟩) cT) (fun s g a=>by
   injection a with a
   injection a with a _
   rcases j.2 with ⟨h,_⟩|⟨C,B,A,h,m,_⟩
   ·rw [h] at a;simp [Value.ownBlock] at a
   ·rw [h] at a;simp only [Value.ownBlock,aT] at a;subst a;exact cT m) G0
  injection d with d
  injection d with _ d
  rw [d];exact l⟩
theorem ConT.sub {avs bvs xs:List AV}{res:AV}(h:SubL avs bvs)(a:ConT E f bvs ty sz xs res):ConT E f avs ty sz xs res :=
 ⟨a.1,a.2.1,fun S w vs ⟨d,b⟩=>a.2.2 S w vs ⟨by rw [d,h.len],fun i hi=>(b i (by rw [h.len];exact hi)).sub (h.at i _ hi)⟩⟩
def Xk (w:World)(g off:Nat)(X:List Value):Prop:=∃ a ty b,w.heap[g]? = some (.cells a ty b)/\0<a.size/\∀ j u,X[j]? = some u->a[off+j]? = some u
section
variable {w w':World} {g off:Nat} {X:List Value}
theorem Xk.lt (h:Xk w g off X):g<w.heap.size:=by
 obtain ⟨a,ty,b,h,_⟩:=h;exact (aH.1 h).1
theorem Xk.cell (h:Xk w g off X){j:Nat}{u:Value}(a:X[j]? = some u):w.cell? ⟨g,off+j,none⟩=some u:=by
 obtain ⟨d,ty,e,h,_,b⟩:=h;simp [World.cell?,h,b j u a]
theorem Xk.grown {row:Option Nat}(h:Xk w g off X)(e:w.grownBy w' row)(d:some g≠row):Xk w' g off X:=by
 have b:=h.lt;obtain ⟨a,ty,j,h,i⟩:=h;exact ⟨a,ty,j,(e.block g b d).trans h,i⟩
theorem Xk.alloc (h:Xk w g off X)(o:Obj):Xk (w.alloc o) g off X:=by
 have b:=h.lt;obtain ⟨a,ty,e,h,d⟩:=h;exact ⟨a,ty,e,(Below.heap_alloc w o g b).trans h,d⟩
theorem Xk.shape (h:Xk w g off X):∃ t k,k≠0/\w.shape? g=some (t,k):=by
 obtain ⟨a,ty,b,h,h1,_⟩:=h;exact ⟨ty,a.size,by omega,by simp [World.shape?,h]⟩
theorem Sl.one_x {enc:α->List Value}{c:Nat}{x:α}(d:1<=c)(h:Xk w g off (enc x)):Sl w (fun _=>True) sz enc (.slice (some ⟨g,off,none⟩) 1 c) [x] :=
 ⟨_,c,rfl,d,fun _=>⟨g,off,rfl,trivial,h.lt,fun k b j u a=>by
  have:k=0:=by simpa using b
  subst this;simpa using h.cell (by simpa using a)⟩⟩
end
theorem ziv (w:World)(tS tR e:TypeId)(v:P.underlying tS=some (.slice e))(size:Nat)(u:∀ w,(Go.sizeOf e).run P w=.ok size w)
  (a b:Addr) (la ca lb cb:Nat) (h:a.block≠b.block) (d:∃ t k,k≠0/\w.shape? a.block=some (t,k)) (tB:TypeId) (kB:Nat) (l:w.shape? b.block=some (tB,kB)) (o:kB≠0)
  (r:w.frozen? b=false) (q:w.frozen? { block:=b.block,off:=kB }=false) :
  (Extern.SlicesOverlaps.overlaps #[tS,tS] #[tR] #[.slice (some a) la ca,.slice (some b) lb cb]).run P w=.ok (.bool false) w:=by
 have m:(a.block != b.block)=true:=by simpa using h
 have i:(a.block == b.block)=false:=by simpa using h
 obtain ⟨tA,kA,p,d⟩:=d;change Sem.run P (α:=Value) (underlying tS >>= _) w=_;by_cases x:la=0\/lb=0\/size=0
 ·simp [run_underlying v,u,x]
 ·cases kB with
  |zero=>exact absurd rfl o
  |succ kB =>
   cases kA with
   |zero=>exact absurd rfl p
   |succ kA =>
    cases s:w.frozen? a<;>cases j:w.frozen? { block:=a.block,off:=kA+1 } <;>
    simp [run_underlying v,u,x,m,i,frozen,noView,viewAt,mayBeOne,stringish,shape,Sem.run,d,l,s,j,r,q]
def y34 (e:TypeId)(sz:Nat)(enc:α->List Value)(base:Nat)(v:Value)(l:List α)(w0:World)(r:Ending)(w':World):Prop:=∃ A c,r=.returned (.slice A l.length c)/\Own w' base e sz enc (.slice A l.length c) l/\w0.grownBy w' v.ownBlock/\((Value.slice A l.length c).ownBlock=v.ownBlock\/(Value.slice A l.length c).ownBlock=some w0.heap.size)
def Sr (n:Nat)(a:List α)(i:Int)(v:List α):Option (List α) :=
 match v with
 |[x]=>if 0<=i/\i.toNat<=a.length/\a.length<=1000000000 then some (a.take i.toNat++x::a.drop i.toNat) else none
 |_=>none
theorem y2m (d:Value)(us:List Value)(n:Nat)(h:us.length=n*sz):(bF n).flatMap (fun k=>(bF sz).map fun j=>us.getD (k*sz+j) d)=us:=by
 induction n generalizing us with
 |zero=>simp at h;subst h;rfl
 |succ n ih =>
  rw [range_succ_eq_map,flatMap_cons,flatMap_map];have h1:(bF sz).map (fun j=>us.getD (0*sz+j) d)=us.take sz:=by
   apply ext_getElem
   ·simp [h,aK]
   ·intro j h1 a;have b:j<us.length:=by simp at a;omega
    simp [aD b]
  have a:(fun k=>(bF sz).map fun j=>us.getD (k.succ*sz+j) d)=fun k=>(bF sz).map fun j=>(us.drop sz).getD (k*sz+j) d:=by
   funext k;refine map_congr_left fun j _=>?_
   rw [aA,aA,bE,aK,Nat.add_right_comm,Nat.add_comm (k*sz+j) sz]
  rw [h1,a,ih (us.drop sz) (by rw [length_drop,h,aK];omega),take_append_drop]
theorem zy9 {e:Nat}(hP:E.P=P)(hE:Cg E f)(hz:0<sz)
  (any:∀ (l:List (Cel sz)) (x:Cel sz) (i base:Nat) (A:Option Addr) (c g off c1:Nat) (w:World),Own w base e sz encC (.slice A l.length c) l->Xk w g off (encC x)->1<=c1->(Value.slice A l.length c).ownBlock≠some g->i<=l.length->l.length<=1000000000->base<=w.heap.size ->
    Calls P f #[.slice A l.length c,.int .i64 i,.slice (some ⟨g,off,none⟩) 1 c1] w (y34 e sz encC base (.slice A l.length c) (l.take i++x::l.drop i) w))  {enc:α->AV}  {a v r:List α} {i:Int} (K:Sr n a i v=some r) :
  ConC false E f [.row 0,aI i,.sl sz (List.map enc v)] e sz (List.map enc a) e sz (List.map enc r) (.row 0):=by
 unfold Sr at K;split at K
 ·rename_i x;split at K
  ·rename_i hc;obtain ⟨d,rfl⟩:=Int.eq_ofNat_of_zero_le hc.1;simp only [Int.toNat_natCast] at hc K;injection K with K
   subst K;refine ⟨hE,rfl,fun S w0 w vs v us al o ae an ac M hn V=>?_⟩;have e3:∃ p q s,vs=#[p,q,s]:=by
    obtain ⟨l⟩:=vs
    match l,hn with
    |[p,q,s],_=>exact ⟨p,q,s,rfl⟩
   obtain ⟨p,q,s,rfl⟩:=e3;have ha:=V (fun _=>some (some (v.ownBlock,v))) rfl;have hp:Rep w S (fun _=>some (some (v.ownBlock,v))) (.row 0) p:=ha 0 (by simp);have hq:Rep w S (fun _=>some (some (v.ownBlock,v))) (aI d) q:=ha 1 (by simp);have hs:Rep w S (fun _=>some (some (v.ownBlock,v))) (.sl sz [enc x]) s:=ha 2 (by simp);have ao:p=v:=hp.row_inv rfl (Gf (D3 o));subst ao;rw [hq.int_inv];obtain ⟨A',c1,rfl,av,ak,cell,Y,am,h1⟩:=hs.sl_inv;obtain ⟨g,off,rfl,ax,ba,G⟩:=Y (by simp);have aa:(enc x).cells.length=sz:=ak 0 (by simp);let X:Cel sz:=⟨(bF sz).map (fun j=>cell 0 j),by simp,fun u I=>by obtain ⟨j,_,rfl⟩:=mem_map.1 I;exact h1 0 j⟩;have ai:∀ j,j<sz->(encC X)[j]? = some (cell 0 j):=fun j t=>by simp [encC,X,t]
   have hX:Xk w g off (encC X):=by
    have h0:=G 0 0 (by simp) hz;simp only [Nat.zero_mul,dO] at h0;have ad:∃ C ty fr,w.heap[g]? = some (.cells C ty fr):=by
     unfold World.cell? at h0;split at h0
     ·rename_i C ty fr hh;exact ⟨C,ty,fr,hh⟩
     ·cases h0
    obtain ⟨C,ty,fr,hh⟩:=ad;have ah:∀ j,j<sz->C[off+j]? = some (cell 0 j):=fun j t=>by
     have:=G 0 j (by simp) t;simpa [World.cell?,hh] using this
    refine ⟨C,ty,fr,hh,?_,fun j u I=>?_⟩
    ·have:=(aH.1 (ah 0 hz)).1;omega
    ·have t:j<sz:=by have:=(List.getElem?_eq_some_iff.1 I).1;simpa [encC,X] using this
     rw [ai j t] at I;rw [ah j t,I]
   let l:List (Cel sz):=(bF (List.map enc a).length).map fun k=>⟨(bF sz).map fun j=>us.getD (k*sz+j) (.bool true),by simp,fun u I=>by
    obtain ⟨j,_,rfl⟩:=mem_map.1 I;rw [aA];cases hq:us[k*sz+j]? with
    |none=>rfl
    |some u=>exact ac u (mem_of_getElem? hq)⟩
   have z:l.length=(List.map enc a).length:=by simp [l]
   have au:l.flatMap encC=us:=by
    have:=y2m (sz:=sz) (.bool true) us (List.map enc a).length o.1;rw [<-this];simp [l,encC,flatMap_map]
   have ho:Own w w0.heap.size e sz encC p l:=by
    show w.ownsRow _ e sz p l.length (l.flatMap encC);rw [au,z];exact o
   obtain ⟨A,c,ap,ay,_⟩:=ho.val;subst ap;have hi:d<=l.length:=by rw [z,aC];exact hc.2.1
   rw [hP];refine (any l X d w0.heap.size A c g off c1 w ho hX (by simpa using av) (fun e=>M g e ax) hi (by rw [z,aC];exact hc.2.2) al.size).mono ?_;rintro ed w' ⟨A2,c2,rfl,aq,J,aw⟩;have N:(List.take d l++X::bB d l).length=(List.map enc (List.take d a++x::bB d a)).length:=by
    simp [z]
   have ab:∀ b,(Value.slice A2 (List.take d l++X::bB d l).length c2).ownBlock=some b->(Value.slice A l.length c).ownBlock=some b\/w.heap.size<=b:=fun b Y=>by
    rcases aw with h|h
    ·exact bG (h▸Y)
    ·rw [h] at Y;injection Y with Y;exact cT (by omega)
   have O:w'.ownsRow w0.heap.size e sz (Value.slice A2 (List.take d l++X::bB d l).length c2) (List.take d l++X::bB d l).length ((List.take d l++X::bB d l).flatMap encC):=aq;have ag:∀ y∈a,(enc y).cells.length=sz:=fun y hy=>by
    obtain ⟨k,H,rfl⟩:=mem_iff_getElem.1 hy;have:=ae k (by simpa using H);simpa using this
   -- every element of the new row,with its cells
   have af:∀ k (H:k<(List.take d l++X::bB d l).length) (B:k<(List.take d a++x::bB d a).length),((List.take d l++X::bB d l)[k]=X/\(List.take d a++x::bB d a)[k]=x) \/
     ∃ m,∃ hm:m<l.length,∃ D:m<a.length,(List.take d l++X::bB d l)[k]=l[m]/\(List.take d a++x::bB d a)[k]=a[m]:=fun k H B=>by
    have az:l.length=a.length:=by rw [z,aC]
    by_cases h1:k<d
    ·refine cT ⟨k,by omega,by omega,?_,?_⟩
     ·rw [bC (by simp;omega)];simp
     ·rw [bC (by simp;omega)];simp
    ·by_cases h2:k=d
     ·refine bG ⟨?_,?_⟩
      ·rw [aJ (by simp;omega)];simp only [aU,show k-min d l.length=0 by omega,cD]
      ·rw [aJ (by simp;omega)];simp only [aU,show k-min d a.length=0 by omega,cD]
     ·refine cT ⟨k-1,by simp at H;omega,by simp at B;omega,?_,?_⟩
      ·rw [aJ (by simp;omega)];simp only [aU,show k-min d l.length=(k-1-d)+1 by omega,cE,getElem_drop];congr 1;omega
      ·rw [aJ (by simp;omega)];simp only [aU,show k-min d a.length=(k-1-d)+1 by omega,cE,getElem_drop];congr 1;omega
   refine ⟨_,_,(List.take d l++X::bB d l).flatMap encC,rfl,J,by rw [<-N];exact O,fun h=>(by cases h),ab,fun k H=>?_,fun k H j t=>?_,fun u I=>?_,fun γ' Z=>.row Z (fun g s e _=>by injection e with e;injection e with _ e)⟩
   ·have B:k<(List.take d a++x::bB d a).length:=by simpa using H
    rw [aQ];rcases af k (by rw [N];exact H) B with ⟨_,h⟩|⟨m,hm,D,_,h⟩
    ·rw [h];exact aa
    ·rw [h];exact ag _ (aY D)
   ·have B:k<(List.take d a++x::bB d a).length:=by simpa using H
    have R:k<(List.take d l++X::bB d l).length:=by rw [N];exact H
    have aj:∀ b,S b->b<w.heap.size->w'.heap[b]? = w.heap[b]? /\ ((S b\/w.heap.size<=b)/\(Value.slice A2 (List.take d l++X::bB d l).length c2).ownBlock≠some b):=fun b hS Q =>
     ⟨J.block b Q (fun e=>M b e.symm hS),bG hS,fun e=>by
      rcases ab b e with h|h
      ·exact M b h hS
      ·omega⟩
    simp only [aQ] at t ⊢;rcases af k R B with ⟨W,L⟩|⟨m,hm,D,W,L⟩
    ·simp only [L] at t ⊢;have F:j<sz:=by omega
     have U:=X2 (enc:=encC (n:=sz)) (fun y _=>y.2.1) k R j F (cell 0 j) (by rw [W];exact ai j F);rw [aA,U];have:=am 0 (by simp) j t;exact Rep.mono this J.size aj
    ·simp only [L] at t ⊢;have F:j<sz:=by rw [ag _ (aY D)] at t;exact t
     have ar:(encC l[m])[j]? = some (us.getD (m*sz+j) undef):=by
      have Q:m*sz+j<us.length:=by
       rw [o.1,<-z];have:(m+1)*sz<=l.length*sz:=aF _ hm;rw [aK] at this;omega
      simp [l,encC,F,aD Q]
     have U:=X2 (enc:=encC (n:=sz)) (fun y _=>y.2.1) k R j F _ (by rw [W];exact ar);rw [aA,U];have:=an m (by simpa using D) j (by simpa using t);simp only [aQ] at this;exact Rep.mono this J.size aj
   ·obtain ⟨y,_,hy⟩:=mem_flatMap.1 I;exact y.2.2 u hy
  ·cases K
 ·cases K
end Go.Proofs.YthbogefcfhmpgaaGreat
