/- slices.SortFunc at structs, in its place. -/
import Derived.Shelf.SlSortCmp.NoneTotal
import Derived.Sort.OwnSorted
import Derived.Test.YthbogefcfhmpgaaGreatK12
set_option linter.unusedVariables false
set_option linter.unusedSimpArgs false
namespace Go.Proofs
open Go.Shelf
open Tryz renaming underlying281->bI,underlying308->bJ,underlying309->bK,underlying108->bL,underlying315->bM,underlying317->bN,underlying344->bO,underlying348->bP,underlying364->bQ,zeroValue281->bS,zeroValue308->bT,zeroValue309->bU,zeroValue108->bV,zeroValue315->bW,zeroValue317->bX,zeroValue344->bY,zeroValue348->bZ,zeroValue364->cA,underlying76->cB,underlying0->cE,underlying3->cF,underlying4->cG,underlying5->cH,underlying9->cI,zeroValue76->cJ,zeroValue0->cM,zeroValue3->cN,zeroValue4->cO,zeroValue5->cP,zeroValue9->cQ,sizeOf281->cT,sizeOf308->cU,sizeOf309->cV,sizeOf108->cW,sizeOf315->cX,sizeOf317->cY,sizeOf344->cZ,sizeOf348->dA,sizeOf364->dB,isAgg281->dC,isAgg308->dD,isAgg309->dE,isAgg108->dF,isAgg315->dG,isAgg317->dH,isAgg344->dI,isAgg348->dJ,isAgg364->dK,sizeOf76->dL,sizeOf0->dO,sizeOf3->dP,sizeOf4->dQ,sizeOf5->dR,sizeOf9->dS,isAgg76->dU,isAgg0->dY,isAgg3->dZ,isAgg4->eA,isAgg5->eB,isAgg9->eC
def Tryz.laysSlF06_f200_ren:Go.Shelf.Ren:=⟨fun|6=>200|15=>206|14=>251|28=>260|29=>261|20=>292|21=>293|22=>294|23=>295|24=>296|25=>297|26=>298|27=>299|46=>318|47=>301|48=>302|49=>319|50=>320|57=>335|n=>n,fun|22=>49|24=>90|25=>95|3=>3|39=>281|0=>0|53=>315|55=>317|4=>4|46=>309|45=>308|50=>108|5=>5|9=>9|66=>344|70=>348|76=>364|77=>76|n=>n,fun|n=>n⟩
theorem Tryz.laysSlF06_f200:Go.Proofs.SlLaysF0.n6 Tryz.prog Tryz.laysSlF06_f200_ren:={
 mixed:=by kernel_rfl
 f6:=⟨Tryz.f200.name,by decide,Tryz.func200.trans (congrArg some (by kernel_rfl))⟩
 f14:=⟨Tryz.f251.name,by decide,Tryz.func251.trans (congrArg some (by kernel_rfl))⟩
 f15:=Tryz.func206.trans (congrArg some (by kernel_rfl))
 f20:=⟨Tryz.f292.name,by decide,Tryz.func292.trans (congrArg some (by kernel_rfl))⟩
 f21:=⟨Tryz.f293.name,by decide,Tryz.func293.trans (congrArg some (by kernel_rfl))⟩
 f22:=⟨Tryz.f294.name,by decide,Tryz.func294.trans (congrArg some (by kernel_rfl))⟩
 f23:=⟨Tryz.f295.name,by decide,Tryz.func295.trans (congrArg some (by kernel_rfl))⟩
 f24:=⟨Tryz.f296.name,by decide,Tryz.func296.trans (congrArg some (by kernel_rfl))⟩
 f25:=⟨Tryz.f297.name,by decide,Tryz.func297.trans (congrArg some (by kernel_rfl))⟩
 f26:=⟨Tryz.f298.name,by decide,Tryz.func298.trans (congrArg some (by kernel_rfl))⟩
 f27:=⟨Tryz.f299.name,by decide,Tryz.func299.trans (congrArg some (by kernel_rfl))⟩
 f28:=Tryz.func260.trans (congrArg some (by kernel_rfl))
 f29:=Tryz.func261.trans (congrArg some (by kernel_rfl))
 f46:=⟨Tryz.f318.name,by decide,Tryz.func318.trans (congrArg some (by kernel_rfl))⟩
 f47:=Tryz.func301.trans (congrArg some (by kernel_rfl))
 f48:=Tryz.func302.trans (congrArg some (by kernel_rfl))
 f49:=⟨Tryz.f319.name,by decide,Tryz.func319.trans (congrArg some (by kernel_rfl))⟩
 f50:=⟨Tryz.f320.name,by decide,Tryz.func320.trans (congrArg some (by kernel_rfl))⟩
 f57:=⟨Tryz.f335.name,by decide,Tryz.func335.trans (congrArg some (by kernel_rfl))⟩
 t0:=cE
 a0:=dY
 z0:=dO
 v0:=cM
 t3:=cF
 a3:=dZ
 z3:=dP
 v3:=cN
 t4:=cG
 a4:=eA
 z4:=dQ
 v4:=cO
 t5:=cH
 a5:=eB
 z5:=dR
 v5:=cP
 t9:=cI
 a9:=eC
 z9:=dS
 v9:=cQ
 t22:=Tryz.underlying49
 a22:=Tryz.isAgg49
 z22:=Tryz.sizeOf49
 v22:=Tryz.zeroValue49
 t25:=Tryz.underlying95
 a25:=Tryz.isAgg95
 z25:=Tryz.sizeOf95
 v25:=Tryz.zeroValue95
 t39:=bI
 a39:=dC
 z39:=cT
 v39:=bS
 t45:=bJ
 a45:=dD
 z45:=cU
 v45:=bT
 t46:=bK
 a46:=dE
 z46:=cV
 v46:=bU
 t50:=bL
 a50:=dF
 z50:=cW
 v50:=bV
 t53:=bM
 a53:=dG
 z53:=cX
 v53:=bW
 t55:=bN
 a55:=dH
 z55:=cY
 v55:=bX
 t66:=bO
 a66:=dI
 z66:=cZ
 v66:=bY
 t70:=bP
 a70:=dJ
 z70:=dA
 v70:=bZ
 t76:=bQ
 a76:=dK
 z76:=dB
 v76:=cA
 t77:=cB
 a77:=dU
 z77:=dL
 v77:=cJ }
def Tryz.laysSlF06_f126_ren:Go.Shelf.Ren:=⟨fun|6=>126|15=>206|14=>205|28=>260|29=>261|20=>252|21=>253|22=>254|23=>255|24=>256|25=>257|26=>258|27=>259|46=>300|47=>301|48=>302|49=>303|50=>304|57=>321|n=>n,fun|22=>50|24=>64|25=>68|3=>3|39=>281|0=>0|53=>315|55=>317|4=>4|46=>309|45=>308|50=>108|5=>5|9=>9|66=>344|70=>348|76=>364|77=>76|n=>n,fun|n=>n⟩
theorem Tryz.laysSlF06_f126:Go.Proofs.SlLaysF0.n6 Tryz.prog Tryz.laysSlF06_f126_ren:={
 mixed:=by kernel_rfl
 f6:=⟨Tryz.f126.name,by decide,Tryz.func126.trans (congrArg some (by kernel_rfl))⟩
 f14:=⟨Tryz.f205.name,by decide,Tryz.func205.trans (congrArg some (by kernel_rfl))⟩
 f15:=Tryz.func206.trans (congrArg some (by kernel_rfl))
 f20:=⟨Tryz.f252.name,by decide,Tryz.func252.trans (congrArg some (by kernel_rfl))⟩
 f21:=⟨Tryz.f253.name,by decide,Tryz.func253.trans (congrArg some (by kernel_rfl))⟩
 f22:=⟨Tryz.f254.name,by decide,Tryz.func254.trans (congrArg some (by kernel_rfl))⟩
 f23:=⟨Tryz.f255.name,by decide,Tryz.func255.trans (congrArg some (by kernel_rfl))⟩
 f24:=⟨Tryz.f256.name,by decide,Tryz.func256.trans (congrArg some (by kernel_rfl))⟩
 f25:=⟨Tryz.f257.name,by decide,Tryz.func257.trans (congrArg some (by kernel_rfl))⟩
 f26:=⟨Tryz.f258.name,by decide,Tryz.func258.trans (congrArg some (by kernel_rfl))⟩
 f27:=⟨Tryz.f259.name,by decide,Tryz.func259.trans (congrArg some (by kernel_rfl))⟩
 f28:=Tryz.func260.trans (congrArg some (by kernel_rfl))
 f29:=Tryz.func261.trans (congrArg some (by kernel_rfl))
 f46:=⟨Tryz.f300.name,by decide,Tryz.func300.trans (congrArg some (by kernel_rfl))⟩
 f47:=Tryz.func301.trans (congrArg some (by kernel_rfl))
 f48:=Tryz.func302.trans (congrArg some (by kernel_rfl))
 f49:=⟨Tryz.f303.name,by decide,Tryz.func303.trans (congrArg some (by kernel_rfl))⟩
 f50:=⟨Tryz.f304.name,by decide,Tryz.func304.trans (congrArg some (by kernel_rfl))⟩
 f57:=⟨Tryz.f321.name,by decide,Tryz.func321.trans (congrArg some (by kernel_rfl))⟩
 t0:=cE
 a0:=dY
 z0:=dO
 v0:=cM
 t3:=cF
 a3:=dZ
 z3:=dP
 v3:=cN
 t4:=cG
 a4:=eA
 z4:=dQ
 v4:=cO
 t5:=cH
 a5:=eB
 z5:=dR
 v5:=cP
 t9:=cI
 a9:=eC
 z9:=dS
 v9:=cQ
 t22:=Tryz.underlying50
 a22:=Tryz.isAgg50
 z22:=Tryz.sizeOf50
 v22:=Tryz.zeroValue50
 t25:=Tryz.underlying68
 a25:=Tryz.isAgg68
 z25:=Tryz.sizeOf68
 v25:=Tryz.zeroValue68
 t39:=bI
 a39:=dC
 z39:=cT
 v39:=bS
 t45:=bJ
 a45:=dD
 z45:=cU
 v45:=bT
 t46:=bK
 a46:=dE
 z46:=cV
 v46:=bU
 t50:=bL
 a50:=dF
 z50:=cW
 v50:=bV
 t53:=bM
 a53:=dG
 z53:=cX
 v53:=bW
 t55:=bN
 a55:=dH
 z55:=cY
 v55:=bX
 t66:=bO
 a66:=dI
 z66:=cZ
 v66:=bY
 t70:=bP
 a70:=dJ
 z70:=dA
 v70:=bZ
 t76:=bQ
 a76:=dK
 z76:=dB
 v76:=cA
 t77:=cB
 a77:=dU
 z77:=dL
 v77:=cJ }
end Go.Proofs
namespace Go.Proofs.YthbogefcfhmpgaaGreat
open Go.RowKit List
open List renaming getD_eq_getElem?_getD->aA,drop_eq_nil_of_le->aB,length_map->aC,getElem?_eq_getElem->aD,getElem_append_right->aJ,getElem_map->aQ,getElem?_take_of_lt->aR,length_take->aU,getElem?_toArray->aV,map_cons->aW,getElem_mem->aY,length_cons->aZ,drop->bB,getElem_append_left->bC,pairwise_cons->bD,getElem?_drop->bE,range->bF,length_nil->bR,getElem_cons_zero->cC,getElem_cons_succ->cD,drop_zero->cK,map_nil->dW
open IntKind renaming wrap->aE
open Nat renaming mul_le_mul_right->aF,succ_mul->aK,mul_comm->aM,div_lt_of_lt_mul->aX,div_add_mod->cL,add_zero->dN
open _root_.Array renaming getD_eq_getD_getElem?->aG,getElem?_eq_some_iff->aH,getElem?_toList->aN,getElem?_modify->aO,getElem?_eq_getElem->aS,length_toList->bA,extract_size->bH
open Option renaming getD_some->aL,map_some->cR
open Int renaming natCast_zero->aP
open Option.some renaming injEq->aT
open Or renaming inl->bG,inr->cS
open Tryz renaming underlying281->bI,underlying308->bJ,underlying309->bK,underlying108->bL,underlying315->bM,underlying317->bN,underlying344->bO,underlying348->bP,underlying364->bQ,zeroValue281->bS,zeroValue308->bT,zeroValue309->bU,zeroValue108->bV,zeroValue315->bW,zeroValue317->bX,zeroValue344->bY,zeroValue348->bZ,zeroValue364->cA,underlying76->cB,underlying0->cE,underlying3->cF,underlying4->cG,underlying5->cH,underlying9->cI,zeroValue76->cJ,zeroValue0->cM,zeroValue3->cN,zeroValue4->cO,zeroValue5->cP,zeroValue9->cQ,sizeOf281->cT,sizeOf308->cU,sizeOf309->cV,sizeOf108->cW,sizeOf315->cX,sizeOf317->cY,sizeOf344->cZ,sizeOf348->dA,sizeOf364->dB,isAgg281->dC,isAgg308->dD,isAgg309->dE,isAgg108->dF,isAgg315->dG,isAgg317->dH,isAgg344->dI,isAgg348->dJ,isAgg364->dK,sizeOf76->dL,sizeOf0->dO,sizeOf3->dP,sizeOf4->dQ,sizeOf5->dR,sizeOf9->dS,isAgg76->dU,func125->dV,isAgg0->dY,isAgg3->dZ,isAgg4->eA,isAgg5->eB,isAgg9->eC,func64->eD
open Go.Sort (SWO PermIn SortedIn HoldsK flatK putRowK putRow putCells grow mapBlock onCells size_flatK get_flatK heap_grow_old)
section
variable {T:Type}
def insF (cmp:T->T->Int)(x:T):List T->List T
 |[]=>[x]
 |y::l=>match ltOf cmp y x with
  |true=>y::insF cmp x l
  |false=>x::y::l
def Es (cmp:T->T->Int):List T->List T |[]=>[] |x::l=>insF cmp x (Es cmp l)
def Su [DecidableEq T](cmp:T->T->Int)(n:Nat)(l:List T):Option (List T) :=
 if l.length<=1000000000/\∀ x∈l,∀ y∈l,ltOf cmp x y=false->ltOf cmp y x=false->x=y then some (Es cmp l) else none
theorem zfa (cmp:T->T->Int)(x:T):∀ l:List T,(insF cmp x l).Perm (x::l)
 |[]=>.refl _
 |y::l=>by
  unfold insF;cases ltOf cmp y x with
  |true=>exact ((zfa cmp x l).cons y).trans (.swap x y l)
  |false=>exact .refl _
theorem Ms (cmp:T->T->Int):∀ l:List T,(Es cmp l).Perm l
 |[]=>.refl _
 |x::l=>(zfa cmp x _).trans ((Ms cmp l).cons x)
variable {cmp:T->T->Int}
theorem zf9 (b:SWO (ltOf cmp))(x:T):∀ l:List T,l.Pairwise (fun x y=>ltOf cmp y x=false)->(insF cmp x l).Pairwise (fun x y=>ltOf cmp y x=false)
 |[],_=>by simp [insF]
 |y::l,h=>by
  obtain ⟨h1,i⟩:=bD.1 h;unfold insF;cases d:ltOf cmp y x with
  |true =>
   refine bD.2 ⟨fun z a=>?_,zf9 b x l i⟩;rcases mem_cons.1 ((zfa cmp x l).mem_iff.1 a) with a|a
   ·subst a;cases e:ltOf cmp z y with
    |false=>rfl
    |true=>have:=b.trans _ _ _ d e;rw [b.irrefl] at this;cases this
   ·exact h1 z a
  |false =>
   refine bD.2 ⟨fun z a=>?_,h⟩;rcases mem_cons.1 a with a|a
   ·subst a;exact d
   ·exact b.ntrans _ _ _ (h1 z a) d
theorem z8i (a:SWO (ltOf cmp)):∀ l:List T,(Es cmp l).Pairwise (fun x y=>ltOf cmp y x=false)
 |[]=>.nil
 |x::l=>zf9 a x _ (z8i a l)
theorem zvi (j:SWO (ltOf cmp)){l l':List T}(e:∀ x∈l,∀ y∈l,ltOf cmp x y=false->ltOf cmp y x=false->x=y)(d:l'.Perm l)(hs:l'.Pairwise (fun x y=>ltOf cmp y x=false)):l'=Es cmp l :=
 Perm.eq_of_pairwise (le:=fun x y=>ltOf cmp y x=false) (fun a b i h h1 k=>e a (d.mem_iff.1 i) b ((Ms cmp l).mem_iff.1 h) k h1) hs (z8i j l) (d.trans (Ms cmp l).symm)
end
theorem zju {w w':World}(h:Below w.heap.size w w')(e:w.drawn<=w'.drawn):∃ q i,w'=grow (w.drewN q) i:=by
 refine ⟨w'.drawn-w.drawn,w'.heap.extract w.heap.size w'.heap.size,?_⟩;obtain ⟨a,tape',drawn',b,output'⟩:=w';have p:b=w.os:=h.os;have o:tape'=w.tape:=h.tape;have m:output'=w.output:=h.output;have hs:w.heap.size<=a.size:=h.size;have l:∀ k,k<w.heap.size->a[k]? = w.heap[k]? := h.block;have e:w.drawn<=drawn':=e;subst p o m;have eh:a=w.heap++a.extract w.heap.size a.size:=by
  apply Array.ext_getElem?;intro k;by_cases d:k<w.heap.size
  ·rw [Array.getElem?_append_left d];exact l k d
  ·rw [Array.getElem?_append_right (by omega),Array.getElem?_extract];by_cases j:k<a.size
   ·rw [if_pos (by omega)];congr 1;omega
   ·rw [if_neg (by omega),Array.getElem?_eq_none (by omega)]
 have ed:drawn'=w.drawn+(drawn' - w.drawn):=by omega
 simp only [grow,World.drewN];congr 1
theorem zyq (F a:Array Value)(h:F.size<=a.size):(putCells id 0 F a).toList.take F.size=F.toList:=by
 apply ext_getElem?;intro j;by_cases b:j<F.size
 ·rw [aR b,aN];simp [putCells,b,show j<a.size by omega]
 ·rw [getElem?_take_eq_none (by omega),getElem?_eq_none (by simp;omega)]
abbrev SEl (w:World)(S:Nat->Prop)(sz:Nat){T:Type}(encT:T->AV):Type:={ p:List Value×T // p.1.length=sz/\(∀ v∈p.1,v.oneCell'=true)/\Rep w S G0 (encT p.2) (.agg p.1.toArray) }
variable {α:Type}
theorem zt7 [Inhabited α](enc:α->List Value)(sz:Nat)(l:∀ x,(enc x).length=sz)(d:Array α)(k j:Nat)(b:k<d.size)(e:j<sz):(flatK enc sz d).toList.getD (k*sz+j) undef=(enc d[k]!).getD j undef:=by
 have a:k*sz+j<d.size*sz:=by
  have:(k+1)*sz<=d.size*sz:=aF _ b;rw [aK] at this;omega
 have h1:=get_flatK enc sz d (k*sz+j) a;have o:(k*sz+j) / sz=k:=by rw [aM,Nat.mul_add_div (by omega),Nat.div_eq_of_lt e,dN]
 have m:(k*sz+j) % sz=j:=by rw [aM,Nat.mul_add_mod,Nat.mod_eq_of_lt e]
 rw [o,m] at h1;have i:k*sz+j<(flatK enc sz d).size:=by rw [size_flatK];exact a
 rw [aA,aN,aS i,aL,<-getElem!_pos (flatK enc sz d) _ i,h1];have h:j<(enc d[k]!).length:=by rw [l];exact e
 rw [getElem!_pos (enc d[k]!) j h,aA,aD h,aL]
variable {E:Env}{ty sz n:Nat}
theorem zrs {Ed:Env}{f g:Nat}{T:Type}[DecidableEq T]{encT:T->AV}{cmp:T->T->Int}{l l':List T}(hP:Ed.P=E.P)(bx:Ed.dr=true)(he:Cc E f)(ch:Cc E g)(ag:0<sz)
  (U:∀ x,∃ cs,encT x=.agg cs/\cs.length=sz)
  (ah:∀ (α:Type) [Inhabited α] (enc:α->List Value) (I:∀ x,(enc x).length=sz) (h1:∀ x,∀ v∈enc x,v.oneCell'=true) (cf:α->α->Int) (hO:SWO (ltOf cf)) (blk off o:Nat) (d:Array α) (w:World)
    (ae:CmpLays E.P g #[] enc sz cf blk off d.size w) (hH:HoldsK enc sz w blk off d) (R:blk<w.heap.size) (ag:d.size<4611686018427387904),
    Calls E.P f #[.slice (some ⟨blk,off,none⟩) d.size o,.func (.func g) #[] #[]] w fun e w'=>e=.returned (.tuple #[])/\∃ a n os,PermIn 0 d.size d a/\SortedIn (ltOf cf) 0 d.size a/\w'=sortWorldK enc sz w blk off n a os)
  (ak:∀ (p:Option Addr) (o:Nat) (fv:Value) (w:World),Calls E.P f #[.slice p 0 o,fv] w fun e w'=>e=.returned (.tuple #[])/\w'=w)
  (hc:∀ x y,Con Ed true g [encT x,encT y] (.int .i64 (cmp x y))) (hO:SWO (ltOf cmp)) (hF:Su cmp n l=some l') :
  ConC true E f [.row 0,.fn g []] ty sz (l.map encT) ty sz (l'.map encT) (.tup []):=by
 unfold Su at hF;split at hF;rotate_left
 ·cases hF
 rename_i aq;obtain ⟨cd,af⟩:=aq;injection hF with hF
 refine ⟨he,rfl,fun S w0 w vs v us cj C ca bi ac am bf ar=>?_⟩
 -- the arguments
 have ha:=ar (fun i=>if i=0 then some (some (v.ownBlock,v)) else none) rfl;have h0:=(ha 0 (by simp)).row_inv (g:=v.ownBlock) (s:=v) rfl (Gg (D1 C));obtain ⟨cs,h1,B,_⟩:=(ha 1 (by simp)).fn_inv;have bc:cs=#[]:=Array.eq_empty_of_size_eq_zero B;subst bc;have evs:vs=#[v,.func (.func g) #[] #[]]:=by
  have:=y6f bf;rw [h0,h1] at this;exact this
 rw [evs];clear ha h0 h1 evs;have G:(l.map encT).length=l.length:=aC _;have r:l'.length=l.length:=by rw [<-hF];exact (Ms cmp l).length_eq
 -- no element
 have empty:l=[]->Calls E.P f #[v,.func (.func g) #[] #[]] w fun e w'=>∃ u v' us',e=.returned u/\w.grownBy w' v.ownBlock/\w'.ownsRow w0.heap.size ty sz v' (l'.map encT).length us'/\(true=true->v'=v)/\(∀ b,v'.ownBlock=some b->v.ownBlock=some b\/w.heap.size<=b)/\(∀ k (I:k<(l'.map encT).length),((l'.map encT)[k]).cells.length=sz) /\
   (∀ k (I:k<(l'.map encT).length) j (D:j<((l'.map encT)[k]).cells.length),Rep w' (fun b=>(S b\/w.heap.size<=b)/\v'.ownBlock≠some b) G0 (((l'.map encT)[k]).cells[j]) (us'.getD (k*sz+j) undef))/\(∀ u∈us',u.oneCell'=true) /\
   ∀ γ':Gam,γ' 0=some (some (v'.ownBlock,v'))->Rep w' (fun b=>(S b\/w.heap.size<=b)/\v'.ownBlock≠some b) γ' (.tup []) u:=fun h0=>by
  have V:l'=[]:=by rw [<-hF,h0];simp [Es]
  subst V;subst h0;have K:∃ p o,v=.slice p 0 o:=by
   rcases C.2 with ⟨K,_⟩|⟨b,o,au,K,_⟩
   ·exact ⟨none,0,K⟩
   ·exact ⟨_,o,K⟩
  obtain ⟨p,o,K⟩:=K;have t:=ak p o (.func (.func g) #[] #[]) w;rw [<-K] at t;refine t.mono ?_;rintro e w' ⟨rfl,rfl⟩;exact ⟨_,v,us,rfl,World.grownBy.refl _ _,C,fun _=>rfl,fun b Y=>bG Y,fun k I=>absurd I (by simp),fun k I=>absurd I (by simp),ac,fun γ' _=>.tup #[] rfl (fun i hi=>absurd hi (by simp))⟩
 by_cases V:l=[]
 ·exact empty V
 have bl:0<l.length:=length_pos_iff.2 V;rcases C.2 with ⟨_,h0⟩|⟨blk,o,au,K,bv,hh,hn,hm,hs,ht⟩
 ·omega
 have R:blk<w.heap.size:=(aH.1 hh).1;have aj:v.ownBlock=some blk:=by rw [K];rfl
 have bz:us.length=l.length*sz:=by rw [C.1,G]
 have cg:∀ k j,k<l.length->j<sz->k*sz+j<l.length*sz:=fun k j I D=>by
  have:(k+1)*sz<=l.length*sz:=aF _ I;rw [aK] at this;omega
 -- the elements
 have ap:∀ i (hi:i<l.length),((us.drop (i*sz)).take sz).length=sz/\(∀ v∈(us.drop (i*sz)).take sz,v.oneCell'=true)/\Rep w S G0 (encT l[i]) (.agg ((us.drop (i*sz)).take sz).toArray):=fun i hi=>by
  have O:((us.drop (i*sz)).take sz).length=sz:=by
   rw [aU,length_drop];have:(i+1)*sz<=l.length*sz:=aF _ hi;rw [aK] at this;omega
  have N:∀ v∈(us.drop (i*sz)).take sz,v.oneCell'=true:=fun v K=>ac v (mem_of_mem_drop (mem_of_mem_take K))
  refine ⟨O,N,?_⟩;obtain ⟨cs,B,W⟩:=U l[i];rw [B];have ba:∀ j,j<sz->((us.drop (i*sz)).take sz).toArray.getD j undef=us.getD (i*sz+j) undef:=fun j D=>by
   rw [aG,aV,aR D,bE,aA]
  refine .agg _ (by simpa [W] using O) (fun j D=>?_) (fun j D=>?_)
  ·rw [ba j (by omega)];have bq:i<(l.map encT).length:=by rw [G];exact hi
   have e:(l.map encT)[i]=.agg cs:=by rw [aQ];exact B
   have:=bi i bq j (by rw [e];exact D);simp only [e,AV.cells] at this;exact this
  ·have F:j<((us.drop (i*sz)).take sz).length:=by simpa using D
   rw [aG,aV,aD F,aL];exact N _ (aY F)
 let A:=SEl w S sz encT;let enc:A->List Value:=fun p=>p.1.1
 let d:Array A:=(ofFn fun i:Fin l.length=>(⟨((us.drop (i.1*sz)).take sz,l[i.1]),ap i.1 i.2⟩:A)).toArray
 haveI:Inhabited A:=⟨⟨((us.drop (0*sz)).take sz,l[0]),ap 0 bl⟩⟩
 have J:d.size=l.length:=by simp [d]
 have bu:∀ i (hi:i<l.length),d[i]! = ⟨((us.drop (i*sz)).take sz,l[i]),ap i hi⟩:=fun i hi=>by
  rw [getElem!_pos d i (by rw [J];exact hi)];simp [d]
 have I:∀ x:A,(enc x).length=sz:=fun x=>x.2.1
 have ae:CmpLays E.P g #[] enc sz (fun x y:A=>cmp x.1.2 y.1.2) blk 0 d.size w:=fun m os dk ci x y=>by
  have ad:=(hc x.1.2 y.1.2).2 S (sortWorldK enc sz w blk 0 m dk os) #[.agg (enc x).toArray,.agg (enc y).toArray] ⟨rfl,fun i hi=>?_⟩
  ·rw [hP] at ad;refine ad.mono ?_;rintro e w' ⟨u,rfl,⟨Y,bs⟩,hu⟩;exact ⟨by rw [hu.int_inv],zju Y (bs bx)⟩
  ·have key:∀ z:A,Rep (sortWorldK enc sz w blk 0 m dk os) S G0 (encT z.1.2) (.agg (enc z).toArray):=fun z=>by
    refine z.2.2.2.mono ?_ (fun b hS Y=>⟨?_,hS⟩)
    ·simp [sortWorldK,grow,putRowK,putRow,mapBlock,Go.Sort.ahead]
    ·have al:blk≠b:=fun e=>am blk aj (e▸hS)
     unfold sortWorldK;rw [heap_grow_old _ _ (by simpa [putRowK,Go.Sort.ahead] using Y)];simp [putRowK,putRow,mapBlock,Go.Sort.ahead,aO,al]
   have az:i<2:=hi;rcases i with _|_|i
   ·exact key x
   ·exact key y
   ·omega
 have hH:HoldsK enc sz w blk 0 d:=fun j D=>by
  have F:j<l.length*sz:=by rw [size_flatK,J] at D;exact D
  have hq:j / sz<l.length:=aX (by rwa [aM] at F);have hm:=Nat.mod_lt j ag;have e:=zt7 enc sz I d (j / sz) (j % sz) (by rw [J];exact hq) hm;have ej:j / sz*sz+j % sz=j:=by rw [aM];exact cL j sz
  rw [ej] at e;have ef:(flatK enc sz d)[j]! = us.getD j undef:=by
   rw [getElem!_pos (flatK enc sz d) j D];have h1:(flatK enc sz d).toList.getD j undef=(flatK enc sz d)[j]:=by
    rw [aA,aN,aS D];rfl
   rw [<-h1,e,bu _ hq];show ((us.drop (j / sz*sz)).take sz).getD (j % sz) undef=us.getD j undef;rw [aA,aR hm,bE,ej,<-aA]
  rw [ef,Nat.zero_add];refine ⟨Mu C aj j (by rw [G];exact F),?_⟩;simp [World.frozen?,hh]
 have bw:SWO (ltOf fun x y:A=>cmp x.1.2 y.1.2):=⟨fun x=>hO.irrefl _,fun x y z=>hO.trans _ _ _,fun x y z=>hO.ntrans _ _ _⟩;have t:=ah A enc I (fun x=>x.2.2.1) (fun x y=>cmp x.1.2 y.1.2) bw blk 0 o d w ae hH R (by rw [J];omega);have ev:v=.slice (some ⟨blk,0,none⟩) d.size o:=by rw [K,G,J]
 rw [<-ev] at t;refine t.mono ?_;rintro e w' ⟨rfl,a,m,os,⟨aw,_,ax⟩,bh,av⟩;have Q:a.size=l.length:=aw.trans J
 -- what lies there now
 have e1:a.extract 0 d.size=a:=by rw [<-aw];exact bH
 rw [e1,bH] at ax;have bt:d.toList.map (fun p=>p.1.2)=l:=by
  simp only [d,map_ofFn];apply ext_getElem
  ·simp
  ·intro i h1 h2;simp
 have ai:(a.toList.map (fun p=>p.1.2)).Perm l:=by
  have:=ax.map (fun p:A=>p.1.2)
  rwa [bt] at this
 have M:(a.toList.map (fun p=>p.1.2)).Pairwise (fun x y=>ltOf cmp y x=false):=by
  rw [pairwise_iff_getElem];intro i j hi D br;have az:i<a.size:=by simpa using hi
  have F:j<a.size:=by simpa using D
  have:=bh i j (Nat.zero_le _) br (by rw [J,<-Q];exact F);rw [getElem!_pos a i az,getElem!_pos a j F] at this;simpa [ltOf] using this
 have bb:a.toList.map (fun p=>p.1.2)=l':=by rw [<-hF];exact zvi hO af ai M
 have ay:∀ k (H:k<l'.length),∃ h:k<a.size,l'[k]=a[k].1.2:=fun k H=>by
  have h:k<a.size:=by omega
  refine ⟨h,?_⟩;have:l'[k]=(a.toList.map (fun p=>p.1.2))[k]'(by simpa using h):=by simp only [bb]
  rw [this];simp
 have ao:w.grownBy w' v.ownBlock:=by
  rw [aj,av];refine ⟨rfl,rfl,rfl,by simp [sortWorldK,grow,putRowK,putRow,mapBlock,Go.Sort.ahead],fun k I al=>?_⟩;unfold sortWorldK;rw [heap_grow_old _ _ (by simpa [putRowK,Go.Sort.ahead] using I)];have:blk≠k:=fun e=>al (by rw [e])
  simp [putRowK,putRow,mapBlock,Go.Sort.ahead,aO,this]
 have Z:(flatK enc sz a).size=l.length*sz:=by rw [size_flatK,Q]
 have bd:l.length*sz<=au.size:=by
  rw [hs];rw [G] at hn;exact aF _ hn
 have an:w'.heap[blk]? = some (.cells (putCells id 0 (flatK enc sz a) au) ty (0,0)):=by
  rw [av];unfold sortWorldK;rw [heap_grow_old _ _ (by simpa [putRowK,Go.Sort.ahead] using R)];simp [putRowK,putRow,mapBlock,Go.Sort.ahead,aO,hh,onCells]
 have aa:∀ k j,k<l.length->j<sz->(flatK enc sz a).toList.getD (k*sz+j) undef=(enc a[k]!).getD j undef:=fun k j H D=>zt7 enc sz I a k j (by rw [Q];exact H) D
 refine ⟨_,v,(flatK enc sz a).toList,rfl,ao,⟨by rw [bA,Z,aC,r],cS ⟨blk,o,_,?_,bv,an,?_,hm,?_,?_⟩⟩,fun _=>rfl,fun b Y=>bG Y,fun k H=>?_,fun k H j D=>?_,fun u hu=>?_,fun γ' _=>.tup #[] rfl (fun i hi=>absurd hi (by simp))⟩
 ·rw [aC,r,K,G]
 ·rw [aC,r];rw [G] at hn;exact hn
 ·simp [putCells,hs]
 ·rw [aC,r,<-Z];exact zyq _ _ (by rw [Z];exact bd)
 ·rw [aQ];obtain ⟨cs,B,W⟩:=U (l'[k]'(by simpa using H));rw [B];exact W
 ·have bo:k<l'.length:=by simpa using H
  obtain ⟨bn,bm⟩:=ay k bo;have e:(l'.map encT)[k]=encT a[k].1.2:=by rw [aQ,bm]
  simp only [e] at D ⊢;obtain ⟨cs,B,W⟩:=U a[k].1.2;have bp:j<sz:=by rw [B] at D;simp only [AV.cells] at D;omega
  rw [aa k j (by omega) bp,getElem!_pos a k bn];have ab:=a[k].2.2.2;rw [B] at ab;obtain ⟨cb,L,cc,bg,_⟩:=ab.agg_inv;injection L with L
  subst L;have:=bg j (by omega);simp only [B,AV.cells];rw [aG,aV,<-aA] at this;refine this.mono ao.size (fun b hS Y=>⟨ao.block b Y (fun e=>am b e.symm hS),bG hS,fun e=>am b e hS⟩)
 ·obtain ⟨q,hq,rfl⟩:=mem_iff_getElem.1 hu;have bk:q<l.length*sz:=by rw [bA,Z] at hq;exact hq
  have bj:q / sz<l.length:=aX (by rwa [aM] at bk);have hm:=Nat.mod_lt q ag;have:=aa (q / sz) (q % sz) bj hm;have ej:q / sz*sz+q % sz=q:=by rw [aM];exact cL q sz
  rw [ej,aA,aD hq,aL] at this;rw [this];have ce:=I a[q / sz]!;rw [aA,aD (by omega),aL];exact (a[q / sz]!).2.2.1 _ (aY _)
variable {f:FuncId}
theorem Con.lo {a:Bool}{avs:List AV}{res:AV}(h:Con E0d a f avs res):Con E0 a f avs res :=
 ⟨h.1,fun S w vs b=>(h.2 S w vs b).mono fun e w' ⟨v,h1,i,d⟩=>⟨v,h1,y6n i.1,d⟩⟩
abbrev Bd:=Bh
abbrev Sta:=Ap
abbrev Ma:=Aa
abbrev Cf:=A5
theorem B1 (l:List α)(k:Nat)(h:k<l.length):l.drop k=l[k]::l.drop (k+1):=drop_eq_getElem_cons h
def cmpI (a b:Int):Int:=if a<b then -1 else if b<a then 1 else 0
def or2 (a b:Int):Int:=if a=0 then b else a
def or3 (a b c:Int):Int:=if a=0 then (if b=0 then c else b) else a
structure TO {α:Type} (c:α->α->Int):Prop where
 one:∀ a b,c a b=-1\/c a b=0\/c a b=1
 zero:∀ a b,c a b=0 ↔ a=b
 neg:∀ a b,c b a=- c a b
 trans:∀ a b d,c a b<0->c b d<0->c a d<0
theorem Hq:TO cmpI where
 one a b:=by unfold cmpI;split<;>(try split)<;>omega
 zero a b:=by unfold cmpI;split<;>(try split)<;>omega
 neg a b:=by unfold cmpI;omega
 trans a b d:=by unfold cmpI;omega
theorem TO.or2 {o γ:Type}{c:o->o->Int}{d:γ->γ->Int}(i:TO c)(l:TO d)(f:α->o)(g:α->γ)(hi:∀ a b,f a=f b->g a=g b->a=b):TO (fun a b=>or2 (c (f a) (f b)) (d (g a) (g b))) where
 one a b:=by
  unfold Proofs.YthbogefcfhmpgaaGreat.or2;split
  ·exact l.one _ _
  ·exact i.one _ _
 zero a b:=by
  unfold Proofs.YthbogefcfhmpgaaGreat.or2;split
  ·rename_i h;rw [l.zero];exact ⟨fun k=>hi a b ((i.zero _ _).1 h) k,fun k=>by rw [k]⟩
  ·rename_i h;exact ⟨fun k=>absurd k h,fun k=>absurd ((i.zero _ _).2 (by rw [k])) h⟩
 neg a b:=by
  unfold Proofs.YthbogefcfhmpgaaGreat.or2;rw [i.neg (f a) (f b),l.neg (g a) (g b)];omega
 trans a b e:=by
  unfold Proofs.YthbogefcfhmpgaaGreat.or2;intro h1 m;by_cases q:c (f a) (f b)=0
  ·rw [if_pos q] at h1;have p:=(i.zero _ _).1 q;rw [p];by_cases j:c (f b) (f e)=0
   ·rw [if_pos j] at m ⊢;exact l.trans _ _ _ h1 m
   omega
  ·rw [if_neg q] at h1;by_cases j:c (f b) (f e)=0
   ·have r:=(i.zero _ _).1 j;simp_all
   ·rw [if_neg j] at m;have:=i.trans _ _ _ h1 m;omega
theorem TO.map {i:Type}{c:i->i->Int}(e:TO c)(f:α->i)(hi:∀ a b,f a=f b->a=b):TO (fun a b=>c (f a) (f b)) where
 one a b:=e.one _ _
 zero a b:=⟨fun h=>hi _ _ ((e.zero _ _).1 h),fun h=>by rw [h];exact (e.zero _ _).2 rfl⟩
 neg a b:=e.neg _ _
 trans a b d:=e.trans _ _ _
def lexC (c:α->α->Int):List α->List α->Int |[],[]=>0 |[],_::_=>-1 |_::_,[]=>1 |a::x,b::y=>Proofs.YthbogefcfhmpgaaGreat.or2 (c a b) (lexC c x y)
theorem TO.lex {c:α->α->Int}(e:TO c):TO (lexC c) where
 one a b:=by
  induction a generalizing b with
  |nil=>cases b<;>simp [lexC]
  |cons x a i =>
   cases b with
   |nil=>simp [lexC]
   |cons y b =>
    unfold lexC Proofs.YthbogefcfhmpgaaGreat.or2;split
    ·exact i b
    ·exact e.one _ _
 zero a b:=by
  induction a generalizing b with
  |nil=>cases b<;>simp [lexC]
  |cons x a i =>
   cases b with
   |nil=>simp [lexC]
   |cons y b =>
    unfold lexC Proofs.YthbogefcfhmpgaaGreat.or2;by_cases h:c x y=0
    ·rw [if_pos h,i,(e.zero _ _).1 h];simp
    ·rw [if_neg h];exact ⟨fun k=>absurd k h,fun k=>by injection k with k _;exact absurd ((e.zero _ _).2 k) h⟩
 neg a b:=by
  induction a generalizing b with
  |nil=>cases b<;>simp [lexC]
  |cons x a i =>
   cases b with
   |nil=>simp [lexC]
   |cons y b =>
    unfold lexC Proofs.YthbogefcfhmpgaaGreat.or2;rw [e.neg x y,i b];omega
 trans a b d:=by
  induction a generalizing b d with
  |nil =>
   intro h1 j;cases b with
   |nil=>simp [lexC] at h1
   |cons y b=>cases d with
    |nil=>simp [lexC] at j
    |cons z d=>simp [lexC]
  |cons x a i =>
   intro h1 j;cases b with
   |nil=>simp [lexC] at h1
   |cons y b =>
    cases d with
    |nil=>simp [lexC] at j
    |cons z d =>
     unfold lexC Proofs.YthbogefcfhmpgaaGreat.or2 at h1 j ⊢;by_cases l:c x y=0
     ·rw [if_pos l] at h1;have p:=(e.zero _ _).1 l;grind
     ·rw [if_neg l] at h1;by_cases m:c y z=0
      ·have o:=(e.zero _ _).1 m;simp_all
      ·rw [if_neg m] at j;have:=e.trans _ _ _ h1 j;omega
section
variable {α:Type} {c:α->α->Int}
theorem TO.irr (h:TO c)(a:α):¬c a a<0:=by rw [(h.zero a a).2 rfl];decide
theorem TO.tri (h:TO c)(a b:α):c a b<0\/a=b\/c b a<0:=by
 have h1:=h.zero a b;have d:=h.neg a b;grind
theorem TO.swo (h:TO c):Go.Sort.SWO (ltOf c):=by
 have b:∀ x y,ltOf c x y=decide (c x y<0):=fun x y=>rfl
 refine ⟨fun x=>?_,fun x y z h1 a=>?_,fun x y z h1 a=>?_⟩<;>simp only [b,decide_eq_true_eq,decide_eq_false_iff_not] at *
 ·exact h.irr x
 ·exact h.trans _ _ _ h1 a
 ·intro d;rcases h.tri y x with k|k|k
  ·rcases h.tri z y with q|q|q
   ·exact h.irr x (h.trans _ _ _ (h.trans _ _ _ d q) k)
   all_goals grind
  all_goals simp_all
theorem TO.ties (h:TO c)(l:List α):∀ x∈l,∀ y∈l,ltOf c x y=false->ltOf c y x=false->x=y:=fun x _ y _ h1 a=>by
 have h1:¬c x y<0:=of_decide_eq_false h1;have a:¬c y x<0:=of_decide_eq_false a;rcases h.tri x y with k|k|k
 all_goals simp_all
end
def rCmp (a b:Bm):Int:=or3 (cmpI a.fTime b.fTime) (cmpI a.fSource b.fSource) (cmpI a.fSeq b.fSeq)
theorem N8:TO rCmp:=(Hq.or2 (Hq.or2 Hq (fun p:Int×Int=>p.1) (fun p=>p.2) (fun a b h k=>Prod.ext h k)) (fun r:Bm=>r.fTime) (fun r=>(r.fSource,r.fSeq)) (fun a b h k=>by
 cases a;simp_all))
def Di (a b:Bd):Int:=or2 (rCmp a.fRef b.fRef) (cmpI a.fVar b.fVar)
theorem ztn:TO Di:=N8.or2 Hq (fun b:Bd=>b.fRef) (fun b=>b.fVar) (fun a b h k=>by cases a;simp_all)
def Ee (a b:Sta):Int:=or2 (cmpI a.fScope b.fScope) (cmpI a.fTime b.fTime)
theorem zyt:TO Ee:=Hq.or2 Hq (fun b:Sta=>b.fScope) (fun b=>b.fTime) (fun a b h k=>by cases a;simp_all)
def B4 (a b:Ma):Int:=lexC Di a.fBindings b.fBindings
theorem D5:TO B4:=ztn.lex.map (fun m:Ma=>m.fBindings) (fun a b h=>by cases a;cases b;simp only at h;rw [h])
def Bl (a b:Cf):Int:=or3 (cmpI a.fState b.fState) (lexC Di a.fBindings b.fBindings) (lexC Ee a.fStarts b.fStarts)
theorem Ea:TO Bl:=(Hq.or2 (ztn.lex.or2 zyt.lex (fun p:List Bd×List Sta=>p.1) (fun p=>p.2) (fun a b h k=>Prod.ext h k)) (fun c:Cf=>c.fState) (fun c=>(c.fBindings,c.fStarts)) (fun a b h k=>by
 cases a;simp_all))
theorem zjw (n:Nat)(a b:Int):F9 n a b=some (cmpI a b):=by
 unfold F9 Vy;simp only [A0,decide_true,Bool.not_true,Ar,A3,cmpI];split
 ·rfl
 ·split<;>rfl
theorem zxb (n:Nat)(a b:Int):Gf (n+3) [a,b]=some (or2 a b):=by
 have w0:aE .i64 ((0:Int)+1)=1:=by decide
 have w1:aE .i64 ((1:Int)+1)=2:=by decide
 unfold Gf or2;simp only [Rs,aW,dW,aZ,bR,A3,Aw,w0,w1];simp only [idx];by_cases d:a=0
 ·by_cases e:b=0<;>simp [d,e]
 ·simp [d]
theorem zxa (n:Nat)(a b c:Int):Gf (n+4) [a,b,c]=some (or3 a b c):=by
 have w0:aE .i64 ((0:Int)+1)=1:=by decide
 have w1:aE .i64 ((1:Int)+1)=2:=by decide
 have h:aE .i64 ((2:Int)+1)=3:=by decide
 unfold Gf or3;simp only [Rs,aW,dW,aZ,bR,A3,Aw,w0,w1,h];simp only [idx];by_cases d:a=0
 ·by_cases e:b=0
  ·by_cases i:c=0<;>simp [d,e,i]
  ·simp [d,e]
 ·simp [d]
theorem y04 (n:Nat)(a b:Bm):Vw (n+4) a b=some (rCmp a b):=by
 unfold Vw;simp only [A0,zjw,zxa];rfl
theorem y5f (n:Nat)(a b:Bd):Uu (n+4) a b=some (Di a b):=by
 unfold Uu;simp only [A0,zjw,y04,show n+4=(n+1)+3 from rfl,zxb];rfl
theorem y5c (n:Nat)(a b:Sta):Vh (n+4) a b=some (Ee a b):=by
 unfold Vh;simp only [A0,zjw,show n+4=(n+1)+3 from rfl,zxb];rfl
theorem zi9 (n:Nat)(b a:List Bd)(i:b.length<=1000000000)(e:a.length<=1000000000):∀ (m k:Nat),k<=a.length->k<=b.length->a.length<m+k ->
  Oj (n+4) b a (if a.length<b.length then some (-1) else some 0) m k=some (lexC Di (a.drop k) (b.drop k))
 |0,k,h1,_,j=>by omega
 |m+1,k,h1,l,j=>by
  unfold Oj;simp only [aC,A3,Aw];by_cases h:k<a.length
  ·rw [if_pos (by omega),Af h,B1 a k h];by_cases d:b.length<=k
   ·rw [if_pos (by omega),aB d];rfl
   ·rw [if_neg (by omega),Af (by omega:k<b.length),B1 b k (by omega)];rw [y5f,A0,Ag k (by omega),zi9 n b a i e m (k+1) (by omega) (by omega) (by omega)];show _=some (or2 (Di _ _) _);unfold or2;split<;>rfl
  ·rw [if_neg (by omega),aB (by omega:a.length<=k)];by_cases d:a.length<b.length
   ·rw [if_pos d,B1 b k (by omega)];rfl
   ·rw [if_neg d,aB (by omega)];rfl
theorem y3h (n:Nat)(a b:List Bd)(h:a.length<n)(i:4<=n)(e:b.length<=1000000000)(d:a.length<=1000000000):U3 n a b=some (lexC Di a b):=by
 obtain ⟨m,rfl⟩:∃ m,n=m+4:=⟨n-4,by omega⟩;unfold U3;have:=zi9 m b a e d (m+4) 0 (by omega) (by omega) (by omega);simp only [aP,cK] at this;rw [<-this];congr 1;simp only [aC,A3];split<;>split<;>first|rfl|omega
theorem zi8 (n:Nat)(b a:List Sta)(i:b.length<=1000000000)(e:a.length<=1000000000):∀ (m k:Nat),k<=a.length->k<=b.length->a.length<m+k ->
  Nr (n+4) b a (if a.length<b.length then some (-1) else some 0) m k=some (lexC Ee (a.drop k) (b.drop k))
 |0,k,h1,_,j=>by omega
 |m+1,k,h1,l,j=>by
  unfold Nr;simp only [aC,A3,Aw];by_cases h:k<a.length
  ·rw [if_pos (by omega),Af h,B1 a k h];by_cases d:b.length<=k
   ·rw [if_pos (by omega),aB d];rfl
   ·rw [if_neg (by omega),Af (by omega:k<b.length),B1 b k (by omega)];rw [y5c,A0,Ag k (by omega),zi8 n b a i e m (k+1) (by omega) (by omega) (by omega)];show _=some (or2 (Ee _ _) _);unfold or2;split<;>rfl
  ·rw [if_neg (by omega),aB (by omega:a.length<=k)];by_cases d:a.length<b.length
   ·rw [if_pos d,B1 b k (by omega)];rfl
   ·rw [if_neg d,aB (by omega)];rfl
theorem y3g (n:Nat)(a b:List Sta)(h:a.length<n)(i:4<=n)(e:b.length<=1000000000)(d:a.length<=1000000000):Te n a b=some (lexC Ee a b):=by
 obtain ⟨m,rfl⟩:∃ m,n=m+4:=⟨n-4,by omega⟩;unfold Te;have:=zi8 m b a e d (m+4) 0 (by omega) (by omega) (by omega);simp only [aP,cK] at this;rw [<-this];congr 1;simp only [aC,A3];split<;>split<;>first|rfl|omega
theorem y1b (n:Nat)(a b:Ma)(e:a.fBindings.length<n)(i:4<=n)(h:b.fBindings.length<=1000000000)(d:a.fBindings.length<=1000000000):Vi n a b=some (B4 a b):=by
 unfold Vi;rw [y3h n _ _ e i h d,A0];rfl
theorem y3f (n:Nat)(a b:Cf)(k:a.fBindings.length<n)(e:a.fStarts.length<n)(j:4<=n)(l:b.fBindings.length<=1000000000)(i:a.fBindings.length<=1000000000)(h:b.fStarts.length<=1000000000)(d:a.fStarts.length<=1000000000):Z7 n a b=some (Bl a b):=by
 unfold Z7;rw [zjw,A0,y1b n _ _ k j l i,A0,y3g n _ _ e j h d,A0];obtain ⟨m,rfl⟩:∃ m,n=m+4:=⟨n-4,by omega⟩;rw [zxa,A0];rfl
theorem Nl (n:Nat)(a b:Int):Cz n a b=some (cmpI a b):=by
 unfold Cz Wf;simp only [A0,decide_true,Bool.not_true,Ar,A3,cmpI];split
 ·rfl
 ·split<;>rfl
theorem y5e (n:Nat)(a b:Int):Ep (n+3) [a,b]=some (or2 a b):=by
 have w0:aE .i64 ((0:Int)+1)=1:=by decide
 have w1:aE .i64 ((1:Int)+1)=2:=by decide
 unfold Ep or2;simp only [Rw,aW,dW,aZ,bR,A3,Aw,w0,w1];simp only [idx];by_cases d:a=0
 ·by_cases e:b=0<;>simp [d,e]
 ·simp [d]
theorem y05 (n:Nat)(a b c:Int):Ep (n+4) [a,b,c]=some (or3 a b c):=by
 have w0:aE .i64 ((0:Int)+1)=1:=by decide
 have w1:aE .i64 ((1:Int)+1)=2:=by decide
 have h:aE .i64 ((2:Int)+1)=3:=by decide
 unfold Ep or3;simp only [Rw,aW,dW,aZ,bR,A3,Aw,w0,w1,h];simp only [idx];by_cases d:a=0
 ·by_cases e:b=0
  ·by_cases i:c=0<;>simp [d,e,i]
  ·simp [d,e]
 ·simp [d]
theorem y5d (n:Nat)(a b:Bm):W6 (n+4) a b=some (rCmp a b):=by
 unfold W6;simp only [A0,Nl,y05];rfl
theorem f_bd (n:Nat)(a b:Bd):Vj (n+4) a b=some (Di a b):=by
 unfold Vj;simp only [A0,Nl,y5d,show n+4=(n+1)+3 from rfl,y5e];rfl
theorem f_st (n:Nat)(a b:Sta):Vs (n+4) a b=some (Ee a b):=by
 unfold Vs;simp only [A0,Nl,show n+4=(n+1)+3 from rfl,y5e];rfl
theorem ztc (n:Nat)(b a:List Bd)(i:b.length<=1000000000)(e:a.length<=1000000000):∀ (m k:Nat),k<=a.length->k<=b.length->a.length<m+k ->
  Pe (n+4) b a (if a.length<b.length then some (-1) else some 0) m k=some (lexC Di (a.drop k) (b.drop k))
 |0,k,h1,_,j=>by omega
 |m+1,k,h1,l,j=>by
  unfold Pe;simp only [aC,A3,Aw];by_cases h:k<a.length
  ·rw [if_pos (by omega),Af h,B1 a k h];by_cases d:b.length<=k
   ·rw [if_pos (by omega),aB d];rfl
   ·rw [if_neg (by omega),Af (by omega:k<b.length),B1 b k (by omega)];rw [f_bd,A0,Ag k (by omega),ztc n b a i e m (k+1) (by omega) (by omega) (by omega)];show _=some (or2 (Di _ _) _);unfold or2;split<;>rfl
  ·rw [if_neg (by omega),aB (by omega:a.length<=k)];by_cases d:a.length<b.length
   ·rw [if_pos d,B1 b k (by omega)];rfl
   ·rw [if_neg d,aB (by omega)];rfl
theorem y6k (n:Nat)(a b:List Bd)(h:a.length<n)(i:4<=n)(e:b.length<=1000000000)(d:a.length<=1000000000):Uh n a b=some (lexC Di a b):=by
 obtain ⟨m,rfl⟩:∃ m,n=m+4:=⟨n-4,by omega⟩;unfold Uh;have:=ztc m b a e d (m+4) 0 (by omega) (by omega) (by omega);simp only [aP,cK] at this;rw [<-this];congr 1;simp only [aC,A3];split<;>split<;>first|rfl|omega
theorem ztb (n:Nat)(b a:List Sta)(i:b.length<=1000000000)(e:a.length<=1000000000):∀ (m k:Nat),k<=a.length->k<=b.length->a.length<m+k ->
  Nu (n+4) b a (if a.length<b.length then some (-1) else some 0) m k=some (lexC Ee (a.drop k) (b.drop k))
 |0,k,h1,_,j=>by omega
 |m+1,k,h1,l,j=>by
  unfold Nu;simp only [aC,A3,Aw];by_cases h:k<a.length
  ·rw [if_pos (by omega),Af h,B1 a k h];by_cases d:b.length<=k
   ·rw [if_pos (by omega),aB d];rfl
   ·rw [if_neg (by omega),Af (by omega:k<b.length),B1 b k (by omega)];rw [f_st,A0,Ag k (by omega),ztb n b a i e m (k+1) (by omega) (by omega) (by omega)];show _=some (or2 (Ee _ _) _);unfold or2;split<;>rfl
  ·rw [if_neg (by omega),aB (by omega:a.length<=k)];by_cases d:a.length<b.length
   ·rw [if_pos d,B1 b k (by omega)];rfl
   ·rw [if_neg d,aB (by omega)];rfl
theorem y6j (n:Nat)(a b:List Sta)(h:a.length<n)(i:4<=n)(e:b.length<=1000000000)(d:a.length<=1000000000):Th n a b=some (lexC Ee a b):=by
 obtain ⟨m,rfl⟩:∃ m,n=m+4:=⟨n-4,by omega⟩;unfold Th;have:=ztb m b a e d (m+4) 0 (by omega) (by omega) (by omega);simp only [aP,cK] at this;rw [<-this];congr 1;simp only [aC,A3];split<;>split<;>first|rfl|omega
theorem f_ma (n:Nat)(a b:Ma)(e:a.fBindings.length<n)(i:4<=n)(h:b.fBindings.length<=1000000000)(d:a.fBindings.length<=1000000000):Ri n a b=some (B4 a b):=by
 unfold Ri;rw [y6k n _ _ e i h d,A0];rfl
theorem y6i (n:Nat)(a b:Cf)(k:a.fBindings.length<n)(e:a.fStarts.length<n)(j:4<=n)(l:b.fBindings.length<=1000000000)(i:a.fBindings.length<=1000000000)(h:b.fStarts.length<=1000000000)(d:a.fStarts.length<=1000000000):Vx n a b=some (Bl a b):=by
 unfold Vx;rw [Nl,A0,f_ma n _ _ k j l i,A0,y6j n _ _ e j h d,A0];obtain ⟨m,rfl⟩:∃ m,n=m+4:=⟨n-4,by omega⟩;rw [y05,A0];rfl
def cfOk (c:Cf):Bool:=decide (c.fBindings.length<=1000000000) && decide (c.fStarts.length<=1000000000)
def maOk (c:Ma):Bool:=decide (c.fBindings.length<=1000000000)
theorem En (c:Cf):cfOk c=true ↔ c.fBindings.length<=1000000000/\c.fStarts.length<=1000000000:=by simp [cfOk]
theorem Em (c:Ma):maOk c=true ↔ c.fBindings.length<=1000000000:=by simp [maOk]
def Jg {T:Type}[DecidableEq T](ok:T->Bool)(cmp:T->T->Int)(n:Nat)(l:List T):Option (List T) :=
 if h:∀ x∈l,ok x=true then (Su (fun a b:{ x:T // ok x=true }=>cmp a.1 b.1) n (l.attachWith (fun x=>ok x=true) h)).map (fun q=>q.map (·.1)) else none
section
variable {T:Type} [DecidableEq T]
omit [DecidableEq T] in
theorem zt2 {U:Type}{d:U->U->Int}{c:T->T->Int}(f:U->T)(h:∀ a b,d a b=c (f a) (f b))(x:U):∀ l:List U,(insF d x l).map f=insF c (f x) (l.map f)
 |[]=>rfl
 |y::l=>by
  have e:ltOf d y x=ltOf c (f y) (f x):=by unfold ltOf;rw [h]
  simp only [insF,aW,e];cases ltOf c (f y) (f x) with
  |true=>simp only [aW,zt2 f h x l]
  |false=>rfl
omit [DecidableEq T] in
theorem zlz {U:Type}{d:U->U->Int}{c:T->T->Int}(f:U->T)(h:∀ a b,d a b=c (f a) (f b)):∀ l:List U,(Es d l).map f=Es c (l.map f)
 |[]=>rfl
 |x::l=>by simp only [Es,aW,zt2 f h,zlz f h l]
variable {cmp:T->T->Int}
theorem zrt {ok:T->Bool}(e:TO cmp)(n:Nat)(l:List T)(h:∀ x∈l,ok x=true)(i:l.length<=1000000000):Jg ok cmp n l=some (Es cmp l):=by
 unfold Jg;rw [dif_pos h];have d:TO (fun a b:{ x:T // ok x=true }=>cmp a.1 b.1):=e.map (fun x:{ x:T // ok x=true }=>x.1) (fun a b h=>Subtype.ext h);unfold Su;rw [if_pos ⟨by simp_all,d.ties _⟩];simp only [cR];rw [zlz (c:=cmp) (fun x:{ x:T // ok x=true }=>x.1) (fun a b=>rfl),attachWith_map_subtype_val]
theorem zly {f g:Nat}{ok:T->Bool}{enc:T->AV}{l l':List T}(H:∀ {q i:List { x:T // ok x=true }},Su (fun a b:{ x:T // ok x=true }=>cmp a.1 b.1) n q=some i->ConC true E0 f [.row 0,.fn g []] ty sz (q.map fun x=>enc x.1) ty sz (i.map fun x=>enc x.1) (.tup []))(d:Jg ok cmp n l=some l') :
  ConC true E0 f [.row 0,.fn g []] ty sz (l.map enc) ty sz (l'.map enc) (.tup []):=by
 unfold Jg at d;split at d
 ·rename_i h;cases e:Su (fun a b:{ x:T // ok x=true }=>cmp a.1 b.1) n (l.attachWith (fun x=>ok x=true) h) with
  |none=>rw [e] at d;cases d
  |some q =>
   rw [e] at d;injection d with d
   have:=H e;simp_all
 ·cases d
end
theorem zr4 (a b:{ x:Cf // cfOk x=true }):Con E0d true 125 [Ai a.1,Ai b.1] (.int .i64 (Bl a.1 b.1)):=by
 obtain ⟨h1,h⟩:=(En a.1).1 a.2;obtain ⟨e,d⟩:=(En b.1).1 b.2;exact zcg (y3f 1000000010 a.1 b.1 (by omega) (by omega) (by omega) e h1 d h)
theorem zr3 (a b:{ x:Ma // maOk x=true }):Con E0d true 64 [Az a.1,Az b.1] (.int .i64 (B4 a.1 b.1)):=by
 have h1:=(Em a.1).1 a.2;have d:=(Em b.1).1 b.2;exact z2a (y1b 1000000010 a.1 b.1 (by omega) (by omega) d h1)
theorem ztt {l l':List Cf}(s:Jg cfOk Bl n l=some l'):ConC true E0 200 [.row 0,.fn 125 []] 90 3 (l.map Ai) 90 3 (l'.map Ai) (.tup []) :=
 zly (fun m=>zrs (Ed:=E0d) rfl rfl (B0 Tryz.func200 rfl rfl) (B0 dV rfl rfl) (by omega) (fun x=>⟨_,rfl,rfl⟩)
  (fun α _ enc o h1 cf q blk off e d w i r j k=>AnyQ.slices_SortFunc Tryz.laysSlF06_f200 3 Tryz.isAgg90 Tryz.sizeOf90 enc o h1 cf q 125 #[] blk off e d w (B0 dV rfl rfl) i r j k)
  (fun p e fv w=>AnyF.slices_SortFunc_none Tryz.laysSlF06_f200 p e fv w) zr4 (Ea.map (fun x:{ x:Cf // cfOk x=true }=>x.1) (fun a b h=>Subtype.ext h)).swo m) s
theorem zts {l l':List Ma}(s:Jg maOk B4 n l=some l'):ConC true E0 126 [.row 0,.fn 64 []] 64 1 (l.map Az) 64 1 (l'.map Az) (.tup []) :=
 zly (fun m=>zrs (Ed:=E0d) rfl rfl (B0 Tryz.func126 rfl rfl) (B0 eD rfl rfl) (by omega) (fun x=>⟨_,rfl,rfl⟩)
  (fun α _ enc o h1 cf q blk off e d w i r j k=>AnyQ.slices_SortFunc Tryz.laysSlF06_f126 1 Tryz.isAgg64 Tryz.sizeOf64 enc o h1 cf q 64 #[] blk off e d w (B0 eD rfl rfl) i r j k)
  (fun p e fv w=>AnyF.slices_SortFunc_none Tryz.laysSlF06_f126 p e fv w) zr3 (D5.map (fun x:{ x:Ma // maOk x=true }=>x.1) (fun a b h=>Subtype.ext h)).swo m) s
abbrev Cel (n:Nat):={ l:List Value // l.length=n/\∀ u∈l,u.oneCell'=true }
def encC (x:Cel n):List Value:=x.1
variable {P:Program}
theorem eokC {T e eb:Nat}{i ie:TyI}(k:TyOk P T i)(hs:i.shape=.slc e sz eb)(d:TyOk P e ie)(h:0<sz)(a:ie.zero.cells.size=sz):EOk P T e sz ie.bytes (encC (n:=sz)):=by
 obtain ⟨j,b,_⟩:=Cu k hs;obtain ⟨x,h1,o,m,l⟩:=d.both;exact ⟨j,⟨x,ie.zero,h1,l,by rw [o,<-d.cells,b],m,a⟩,h,fun x=>x.2.1,fun x=>x.2.2⟩
def Cm (n:Nat)(l:List α):Option (List α):=if l.length<=1000000000 then some l else none
theorem S1 {e:Nat}(W:E.P=P)(Y:Cc E f)(any:∀ (l:List (Cel sz)) (S:Nat->Prop) (v:Value) (w:World),Sl w S sz encC v l->l.length<=1000000000->Calls P f #[v] w (Nj e sz encC l w)){enc:α->AV}{a r:List α}(t:Cm n a=some r) :
  ConT E f [.sl sz (List.map enc a)] e sz (List.map enc r) (.row 0):=by
 unfold Cm at t;split at t
 ·rename_i R;injection t with t
  subst t;refine .ofRow ⟨Y,fun S w vs ⟨Q,O⟩=>?_⟩;have e1:=y6g Q;have I:Rep w S G0 (.sl sz (List.map enc a)) (vs.getD 0 undef):=O 0 (by simp);rw [e1,W];obtain ⟨A,c,N,U,m,cell,G,F,h1⟩:=I.sl_inv;let l:List (Cel sz):=(bF (List.map enc a).length).map fun k=>⟨(bF sz).map fun j=>cell k j,by simp,fun u i=>by
   obtain ⟨j,_,rfl⟩:=mem_map.1 i;exact h1 k j⟩
  have d:l.length=(List.map enc a).length:=by simp [l]
  have y:∀ k (o:k<l.length),(encC l[k])=(bF sz).map fun j=>cell k j:=fun k o=>by simp [l,encC]
  have D:Sl w S sz encC (vs.getD 0 undef) l:=by
   refine ⟨A,c,by rw [N,d],by rw [d];exact U,fun I=>?_⟩;obtain ⟨b,off,Z,V,p,q⟩:=G (by rw [<-d];exact I);refine ⟨b,off,Z,V,p,fun k o j u i=>?_⟩;rw [y k o] at i;have s:j<sz:=by have:=(List.getElem?_eq_some_iff.1 i).1;simpa using this
   rw [getElem?_map,getElem?_range s] at i;simp only [cR,aT] at i;subst i;exact q k j (by rw [<-d];exact o) s
  refine (any l S _ w D (by rw [d,aC];exact R)).mono fun ed w' ⟨A',K,L,J,C⟩=>?_
  refine ⟨_,l.flatMap encC,L,C,?_,m,fun k o j s=>?_,fun u i=>?_⟩
  ·have:w'.ownsRow w.heap.size e sz (.slice A' l.length K) l.length (l.flatMap encC):=J;rw [d] at this;rw [d];exact this
  ·have B:j<sz:=by rw [m k o] at s;exact s
   have z:k<l.length:=by rw [d];exact o
   have H:=Wi (enc:=encC (n:=sz)) (fun x _=>x.2.1) k z j B (cell k j) (by rw [y k z,getElem?_map,getElem?_range B];rfl);rw [aA,H];refine (F k o j s).mono C.size (fun b G p=>⟨C.block b p,bG G,fun e=>?_⟩);have h2:w'.ownsRow w.heap.size _ sz (.slice A' l.length K) l.length (l.flatMap encC):=J;rcases h2.2 with ⟨h,_⟩|⟨g,ab,aa,h,hg,_⟩
   ·rw [h] at e;simp [Value.ownBlock] at e
   ·rw [h] at e;simp only [Value.ownBlock,aT] at e;subst e;omega
  ·obtain ⟨x,_,M⟩:=mem_flatMap.1 i;exact x.2.2 u M
 ·cases t
theorem ConT.close {args xs:List AV}(h:ConT E f args ty sz xs (.row 0))(p:E.dr=false):Con E false f args (.sl sz xs) :=
 ⟨h.1,fun S w vs o=>(h.2.2 S w vs o).mono fun e w' ⟨u,v,us,h1,y,i,x,t,r,q⟩=>by
  have m:=q (fun _=>some (some (v.ownBlock,v))) rfl;have j:u=v:=m.row_inv rfl (Gg (D1 i));subst j;refine ⟨u,h1,⟨y,fun h=>absurd (p.symm.trans h) (by simp)⟩,?_⟩;have d:Bj w' (fun b=>(S b\/w.heap.size<=b)/\u.ownBlock≠some b) G0 w.heap.size (some (u.ownBlock,u)) (.row ty sz xs):=⟨u,us,rfl,D1 i,i,x,t,r⟩;obtain ⟨s,hs,k⟩:=Gk (S':=fun b=>(false=false/\S b)\/w.heap.size<=b) d (fun b l _=>l.1.elim (fun h=>bG ⟨rfl,h⟩) cS) (fun s g a=>by
   injection a with a
   injection a with a _
   rcases i.2 with ⟨h,_⟩|⟨B,A,z,h,l,_⟩
   ·rw [h] at a;simp [Value.ownBlock] at a
   ·rw [h] at a;simp only [Value.ownBlock,aT] at a;subst a;exact cS l) G0
  injection hs with hs
  injection hs with _ hs
  rw [hs];exact k⟩
theorem ConT.sub {avs bvs xs:List AV}{res:AV}(h:SubL avs bvs)(a:ConT E f bvs ty sz xs res):ConT E f avs ty sz xs res :=
 ⟨a.1,a.2.1,fun S w vs ⟨d,b⟩=>a.2.2 S w vs ⟨by rw [d,h.len],fun i hi=>(b i (by rw [h.len];exact hi)).sub (h.at i _ hi)⟩⟩
def Xk (w:World)(g off:Nat)(X:List Value):Prop:=∃ a ty b,w.heap[g]? = some (.cells a ty b)/\0<a.size/\∀ j u,X[j]? = some u->a[off+j]? = some u
section
variable {w w':World} {g off:Nat} {X:List Value}
theorem Xk.lt (h:Xk w g off X):g<w.heap.size:=by
 obtain ⟨a,ty,b,h,_⟩:=h;exact (aH.1 h).1
theorem Xk.cell (h:Xk w g off X){j:Nat}{u:Value}(a:X[j]? = some u):w.cell? ⟨g,off+j,none⟩=some u:=by
 obtain ⟨d,ty,e,h,_,b⟩:=h;simp [World.cell?,h,b j u a]
theorem Xk.grown {row:Option Nat}(h:Xk w g off X)(e:w.grownBy w' row)(d:some g≠row):Xk w' g off X:=by
 have b:=h.lt;obtain ⟨a,ty,j,h,i⟩:=h;exact ⟨a,ty,j,(e.block g b d).trans h,i⟩
theorem Xk.alloc (h:Xk w g off X)(o:Obj):Xk (w.alloc o) g off X:=by
 have b:=h.lt;obtain ⟨a,ty,e,h,d⟩:=h;exact ⟨a,ty,e,(Below.heap_alloc w o g b).trans h,d⟩
theorem Xk.shape (h:Xk w g off X):∃ t k,k≠0/\w.shape? g=some (t,k):=by
 obtain ⟨a,ty,b,h,h1,_⟩:=h;exact ⟨ty,a.size,by omega,by simp [World.shape?,h]⟩
theorem Sl.one_x {enc:α->List Value}{c:Nat}{x:α}(d:1<=c)(h:Xk w g off (enc x)):Sl w (fun _=>True) sz enc (.slice (some ⟨g,off,none⟩) 1 c) [x] :=
 ⟨_,c,rfl,d,fun _=>⟨g,off,rfl,trivial,h.lt,fun k b j u a=>by
  have:k=0:=by simpa using b
  subst this;simpa using h.cell (by simpa using a)⟩⟩
end
theorem zga (w:World)(tS tR e:TypeId)(v:P.underlying tS=some (.slice e))(size:Nat)(u:∀ w,(Go.sizeOf e).run P w=.ok size w)
  (a b:Addr) (la ca lb cb:Nat) (h:a.block≠b.block) (d:∃ t k,k≠0/\w.shape? a.block=some (t,k)) (tB:TypeId) (kB:Nat) (l:w.shape? b.block=some (tB,kB)) (o:kB≠0)
  (r:w.frozen? b=false) (q:w.frozen? { block:=b.block,off:=kB }=false) :
  (Extern.SlicesOverlaps.overlaps #[tS,tS] #[tR] #[.slice (some a) la ca,.slice (some b) lb cb]).run P w=.ok (.bool false) w:=by
 have m:(a.block != b.block)=true:=by simpa using h
 have i:(a.block == b.block)=false:=by simpa using h
 obtain ⟨tA,kA,p,d⟩:=d;change Sem.run P (α:=Value) (underlying tS >>= _) w=_;by_cases x:la=0\/lb=0\/size=0
 ·simp [run_underlying v,u,x]
 ·cases kB with
  |zero=>exact absurd rfl o
  |succ kB =>
   cases kA with
   |zero=>exact absurd rfl p
   |succ kA =>
    cases s:w.frozen? a<;>cases j:w.frozen? { block:=a.block,off:=kA+1 } <;>
    simp [run_underlying v,u,x,m,i,frozen,noView,viewAt,mayBeOne,stringish,shape,Sem.run,d,l,s,j,r,q]
def zy6 (e:TypeId)(sz:Nat)(enc:α->List Value)(base:Nat)(v:Value)(l:List α)(w0:World)(r:Ending)(w':World):Prop:=∃ A c,r=.returned (.slice A l.length c)/\Own w' base e sz enc (.slice A l.length c) l/\w0.grownBy w' v.ownBlock/\((Value.slice A l.length c).ownBlock=v.ownBlock\/(Value.slice A l.length c).ownBlock=some w0.heap.size)
def S8 (n:Nat)(a:List α)(i:Int)(v:List α):Option (List α) :=
 match v with
 |[x]=>if 0<=i/\i.toNat<=a.length/\a.length<=1000000000 then some (a.take i.toNat++x::a.drop i.toNat) else none
 |_=>none
theorem zxu (d:Value)(us:List Value)(n:Nat)(h:us.length=n*sz):(bF n).flatMap (fun k=>(bF sz).map fun j=>us.getD (k*sz+j) d)=us:=by
 induction n generalizing us with
 |zero=>simp at h;subst h;rfl
 |succ n ih =>
  rw [range_succ_eq_map,flatMap_cons,flatMap_map];have h1:(bF sz).map (fun j=>us.getD (0*sz+j) d)=us.take sz:=by
   apply ext_getElem
   ·simp [h,aK]
   ·intro j h1 a;have b:j<us.length:=by simp at a;omega
    simp [aD b]
  have a:(fun k=>(bF sz).map fun j=>us.getD (k.succ*sz+j) d)=fun k=>(bF sz).map fun j=>(us.drop sz).getD (k*sz+j) d:=by
   funext k;refine map_congr_left fun j _=>?_
   rw [aA,aA,bE,aK,Nat.add_right_comm,Nat.add_comm (k*sz+j) sz]
  rw [h1,a,ih (us.drop sz) (by rw [length_drop,h,aK];omega),take_append_drop]
theorem zuf {e:Nat}(hP:E.P=P)(hE:Cc E f)(hz:0<sz)
  (any:∀ (l:List (Cel sz)) (x:Cel sz) (i base:Nat) (A:Option Addr) (c g off c1:Nat) (w:World),Own w base e sz encC (.slice A l.length c) l->Xk w g off (encC x)->1<=c1->(Value.slice A l.length c).ownBlock≠some g->i<=l.length->l.length<=1000000000->base<=w.heap.size ->
    Calls P f #[.slice A l.length c,.int .i64 i,.slice (some ⟨g,off,none⟩) 1 c1] w (zy6 e sz encC base (.slice A l.length c) (l.take i++x::l.drop i) w))  {enc:α->AV}  {a v r:List α} {i:Int} (K:S8 n a i v=some r) :
  ConC false E f [.row 0,aI i,.sl sz (List.map enc v)] e sz (List.map enc a) e sz (List.map enc r) (.row 0):=by
 unfold S8 at K;split at K
 ·rename_i x;split at K
  ·rename_i hc;obtain ⟨d,rfl⟩:=Int.eq_ofNat_of_zero_le hc.1;simp only [Int.toNat_natCast] at hc K;injection K with K
   subst K;refine ⟨hE,rfl,fun S w0 w vs v us al o ae an ac M hn V=>?_⟩;have e3:∃ p q s,vs=#[p,q,s]:=by
    obtain ⟨l⟩:=vs
    match l,hn with
    |[p,q,s],_=>exact ⟨p,q,s,rfl⟩
   obtain ⟨p,q,s,rfl⟩:=e3;have ha:=V (fun _=>some (some (v.ownBlock,v))) rfl;have hp:Rep w S (fun _=>some (some (v.ownBlock,v))) (.row 0) p:=ha 0 (by simp);have hq:Rep w S (fun _=>some (some (v.ownBlock,v))) (aI d) q:=ha 1 (by simp);have hs:Rep w S (fun _=>some (some (v.ownBlock,v))) (.sl sz [enc x]) s:=ha 2 (by simp);have ao:p=v:=hp.row_inv rfl (Gg (D1 o));subst ao;rw [hq.int_inv];obtain ⟨A',c1,rfl,av,ak,cell,Y,am,h1⟩:=hs.sl_inv;obtain ⟨g,off,rfl,ax,ba,G⟩:=Y (by simp);have aa:(enc x).cells.length=sz:=ak 0 (by simp);let X:Cel sz:=⟨(bF sz).map (fun j=>cell 0 j),by simp,fun u I=>by obtain ⟨j,_,rfl⟩:=mem_map.1 I;exact h1 0 j⟩;have ai:∀ j,j<sz->(encC X)[j]? = some (cell 0 j):=fun j t=>by simp [encC,X,t]
   have hX:Xk w g off (encC X):=by
    have h0:=G 0 0 (by simp) hz;simp only [Nat.zero_mul,dN] at h0;have ad:∃ C ty fr,w.heap[g]? = some (.cells C ty fr):=by
     unfold World.cell? at h0;split at h0
     ·rename_i C ty fr hh;exact ⟨C,ty,fr,hh⟩
     ·cases h0
    obtain ⟨C,ty,fr,hh⟩:=ad;have ah:∀ j,j<sz->C[off+j]? = some (cell 0 j):=fun j t=>by
     have:=G 0 j (by simp) t;simpa [World.cell?,hh] using this
    refine ⟨C,ty,fr,hh,?_,fun j u I=>?_⟩
    ·have:=(aH.1 (ah 0 hz)).1;omega
    ·have t:j<sz:=by have:=(List.getElem?_eq_some_iff.1 I).1;simpa [encC,X] using this
     rw [ai j t] at I;rw [ah j t,I]
   let l:List (Cel sz):=(bF (List.map enc a).length).map fun k=>⟨(bF sz).map fun j=>us.getD (k*sz+j) (.bool true),by simp,fun u I=>by
    obtain ⟨j,_,rfl⟩:=mem_map.1 I;rw [aA];cases hq:us[k*sz+j]? with
    |none=>rfl
    |some u=>exact ac u (mem_of_getElem? hq)⟩
   have z:l.length=(List.map enc a).length:=by simp [l]
   have au:l.flatMap encC=us:=by
    have:=zxu (sz:=sz) (.bool true) us (List.map enc a).length o.1;rw [<-this];simp [l,encC,flatMap_map]
   have ho:Own w w0.heap.size e sz encC p l:=by
    show w.ownsRow _ e sz p l.length (l.flatMap encC);rw [au,z];exact o
   obtain ⟨A,c,ap,ay,_⟩:=ho.val;subst ap;have hi:d<=l.length:=by rw [z,aC];exact hc.2.1
   rw [hP];refine (any l X d w0.heap.size A c g off c1 w ho hX (by simpa using av) (fun e=>M g e ax) hi (by rw [z,aC];exact hc.2.2) al.size).mono ?_;rintro ed w' ⟨A2,c2,rfl,aq,J,aw⟩;have N:(List.take d l++X::bB d l).length=(List.map enc (List.take d a++x::bB d a)).length:=by
    simp [z]
   have ab:∀ b,(Value.slice A2 (List.take d l++X::bB d l).length c2).ownBlock=some b->(Value.slice A l.length c).ownBlock=some b\/w.heap.size<=b:=fun b Y=>by
    rcases aw with h|h
    ·exact bG (h▸Y)
    ·rw [h] at Y;injection Y with Y;exact cS (by omega)
   have O:w'.ownsRow w0.heap.size e sz (Value.slice A2 (List.take d l++X::bB d l).length c2) (List.take d l++X::bB d l).length ((List.take d l++X::bB d l).flatMap encC):=aq;have ag:∀ y∈a,(enc y).cells.length=sz:=fun y hy=>by
    obtain ⟨k,H,rfl⟩:=mem_iff_getElem.1 hy;have:=ae k (by simpa using H);simpa using this
   -- every element of the new row,with its cells
   have af:∀ k (H:k<(List.take d l++X::bB d l).length) (B:k<(List.take d a++x::bB d a).length),((List.take d l++X::bB d l)[k]=X/\(List.take d a++x::bB d a)[k]=x) \/
     ∃ m,∃ hm:m<l.length,∃ D:m<a.length,(List.take d l++X::bB d l)[k]=l[m]/\(List.take d a++x::bB d a)[k]=a[m]:=fun k H B=>by
    have az:l.length=a.length:=by rw [z,aC]
    by_cases h1:k<d
    ·refine cS ⟨k,by omega,by omega,?_,?_⟩
     ·rw [bC (by simp;omega)];simp
     ·rw [bC (by simp;omega)];simp
    ·by_cases h2:k=d
     ·refine bG ⟨?_,?_⟩
      ·rw [aJ (by simp;omega)];simp only [aU,show k-min d l.length=0 by omega,cC]
      ·rw [aJ (by simp;omega)];simp only [aU,show k-min d a.length=0 by omega,cC]
     ·refine cS ⟨k-1,by simp at H;omega,by simp at B;omega,?_,?_⟩
      ·rw [aJ (by simp;omega)];simp only [aU,show k-min d l.length=(k-1-d)+1 by omega,cD,getElem_drop];congr 1;omega
      ·rw [aJ (by simp;omega)];simp only [aU,show k-min d a.length=(k-1-d)+1 by omega,cD,getElem_drop];congr 1;omega
   refine ⟨_,_,(List.take d l++X::bB d l).flatMap encC,rfl,J,by rw [<-N];exact O,fun h=>(by cases h),ab,fun k H=>?_,fun k H j t=>?_,fun u I=>?_,fun γ' Z=>.row Z (fun g s e _=>by injection e with e;injection e with _ e)⟩
   ·have B:k<(List.take d a++x::bB d a).length:=by simpa using H
    rw [aQ];rcases af k (by rw [N];exact H) B with ⟨_,h⟩|⟨m,hm,D,_,h⟩
    ·rw [h];exact aa
    ·rw [h];exact ag _ (aY D)
   ·have B:k<(List.take d a++x::bB d a).length:=by simpa using H
    have R:k<(List.take d l++X::bB d l).length:=by rw [N];exact H
    have aj:∀ b,S b->b<w.heap.size->w'.heap[b]? = w.heap[b]? /\ ((S b\/w.heap.size<=b)/\(Value.slice A2 (List.take d l++X::bB d l).length c2).ownBlock≠some b):=fun b hS Q =>
     ⟨J.block b Q (fun e=>M b e.symm hS),bG hS,fun e=>by
      rcases ab b e with h|h
      ·exact M b h hS
      ·omega⟩
    simp only [aQ] at t ⊢;rcases af k R B with ⟨W,L⟩|⟨m,hm,D,W,L⟩
    ·simp only [L] at t ⊢;have F:j<sz:=by omega
     have U:=Wi (enc:=encC (n:=sz)) (fun y _=>y.2.1) k R j F (cell 0 j) (by rw [W];exact ai j F);rw [aA,U];have:=am 0 (by simp) j t;exact Rep.mono this J.size aj
    ·simp only [L] at t ⊢;have F:j<sz:=by rw [ag _ (aY D)] at t;exact t
     have ar:(encC l[m])[j]? = some (us.getD (m*sz+j) undef):=by
      have Q:m*sz+j<us.length:=by
       rw [o.1,<-z];have:(m+1)*sz<=l.length*sz:=aF _ hm;rw [aK] at this;omega
      simp [l,encC,F,aD Q]
     have U:=Wi (enc:=encC (n:=sz)) (fun y _=>y.2.1) k R j F _ (by rw [W];exact ar);rw [aA,U];have:=an m (by simpa using D) j (by simpa using t);simp only [aQ] at this;exact Rep.mono this J.size aj
   ·obtain ⟨y,_,hy⟩:=mem_flatMap.1 I;exact y.2.2 u hy
  ·cases K
 ·cases K
end Go.Proofs.YthbogefcfhmpgaaGreat
