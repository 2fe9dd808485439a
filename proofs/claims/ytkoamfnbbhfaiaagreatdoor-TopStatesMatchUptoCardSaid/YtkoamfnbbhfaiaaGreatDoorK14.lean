/- Closed runs. -/
import Derived.Test.YtkoamfnbbhfaiaaGreatDoorK13
set_option linter.unusedVariables false
set_option linter.unusedSimpArgs false
namespace Go.Proofs.YtkoamfnbbhfaiaaGreatDoor
open Go.RowKit List
open Bool renaming and_eq_true->aA,not_eq_true'->aF,or_eq_true->aP
open Nat renaming le_of_ble_eq_true->aB,eq_of_beq_eq_true->aC,beq->aD,ne_of_beq_eq_false->aL,blt->aS
open AS renaming fi_eq->aE,ev_eq->aJ,find_upd->aM,fi_eq'->aO,getR_eq->aQ
open Or renaming inr->aG,inl->aK
open List renaming mem_cons_of_mem->aH,range->aR
open WP renaming mono->aN
noncomputable section
variable {α:Type}
def fTm (l:List (Nat×AV))(k:List (Nat×AV)->α):α:=List.rec (motive:=fun _=>(List (Nat×AV)->α)->α) (fun k=>k []) (fun p _ f k=>Prod.rec (motive:=fun _=>α) (fun u x=>Jq u fun b=>fSh x fun a=>f fun d=>k ((b,a)::d)) p) l k
def Yf (d:Nat)(v:Ent)(l:List (Nat×Ent))(k:List (Nat×Ent)->α):α:=List.rec (motive:=fun _=>(List (Nat×Ent)->α)->α) (fun k=>k [(d,v)]) (fun p r b k=>Bool.rec (motive:=fun _=>α) (b fun a=>k (p::a)) (k ((d,v)::r)) (aD p.1 d)) l k
def Uy (wr:List (Nat×Ent))(me:List (Nat×Ent))(k:List (Nat×Ent)->α):α:=List.rec (motive:=fun _=>(List (Nat×Ent)->α)->α) (fun k=>k me) (fun p _ a k=>a fun me'=>Yf p.1 p.2 me' k) wr k
def Hp (σ:AS)(d:Option Nat)(av:AV)(wr:List (Nat×Ent))(k:AS->α):α :=
 match σ,d with
 |⟨tm,me⟩,some d=>fSh av fun a=>Uy wr me fun me'=>k ⟨(d,a)::tm,me'⟩
 |⟨tm,me⟩,none=>Uy wr me fun me'=>k ⟨tm,me'⟩
mutual
def AV.nms:AV->List Nat |.ptr id _=>[id] |.row id=>[id] |.elt id _ _ _=>[id] |.der _ id=>[id] |.cont _ id=>[id] |.fn _ cap=>AV.nmsL cap |.yld _ _ cap=>AV.nmsL cap |.agg cs=>AV.nmsL cs |.tup cs=>AV.nmsL cs |_=>[]
def AV.nmsL:List AV->List Nat |[]=>[] |x::r=>x.nms++AV.nmsL r
end
def Ent.nms:Ent->List Nat |.box _ cs=>AV.nmsL cs |.gen _ _ xs=>AV.nmsL xs |.lp _ _ _ _ _ _ caps=>AV.nmsL caps |_=>[]
def nmsR (x:AV)(acc:List Nat):List Nat:=AV.rec (motive_1:=fun _=>List Nat->List Nat) (motive_2:=fun _=>List Nat->List Nat) (motive_3:=fun _=>Unit) (motive_4:=fun _=>Unit) (fun l=>l) (fun _ _ l=>l) (fun _ l=>l) (fun _ l=>l) (fun l=>l) (fun id _ l=>id::l) (fun l=>l) (fun _ _ _ l=>l) (fun id l=>id::l) (fun id _ _ _ l=>id::l) (fun _ _ d l=>d l) (fun _ _ _ d l=>d l) (fun l=>l) (fun _ d l=>d l) (fun _ d l=>d l) (fun _ _ l=>l) (fun _ id l=>id::l) (fun _ _ l=>l) (fun _ l=>l) (fun _ id l=>id::l) (fun l=>l) (fun _ _ a b l=>a (b l)) () (fun _ _ _ _=>()) (fun _ _ _ _=>()) x acc
def Ra (l:List AV)(acc:List Nat):List Nat:=List.rec (motive:=fun _=>List Nat) acc (fun x _ a=>nmsR x a) l
def zz4 (e:Ent)(acc:List Nat):List Nat:=match e with
 |.box _ cs=>Ra cs acc
 |.gen _ _ xs=>Ra xs acc
 |.lp _ _ _ _ _ _ caps=>Ra caps acc
 |_=>acc
def Uz (find:Nat->Option Ent)(n:Nat)(todo acc:List Nat):List Nat:=Nat.rec (motive:=fun _=>List Nat->List Nat->List Nat) (fun _ acc=>acc) (fun _ a todo acc=>List.rec (motive:=fun _=>List Nat) acc (fun i r _=>Bool.rec (motive:=fun _=>List Nat) (Option.rec (motive:=fun _=>List Nat) (a r acc) (fun e=>a (zz4 e r) (i::acc)) (find i)) (a r acc) (memR i acc)) todo) n todo acc
def V8:Nat:=1000000
def inER (ids:List Nat):Ent->Bool |.box _ cs=>Mv ids cs |.gen _ _ xs=>Mv ids xs |.lp _ _ _ _ _ _ caps=>Mv ids caps |_=>true
def V7 (ids:List Nat)(me:List (Nat×Ent)):Bool:=List.rec (motive:=fun _=>Bool) true (fun p _ a=>Bool.rec (motive:=fun _=>Bool) false a (inER ids p.2)) me
def zvz (ids:List Nat)(me:List (Nat×Ent)):Bool:=List.rec (motive:=fun _=>Bool) true (fun p _ a=>Bool.rec (motive:=fun _=>Bool) false a (memR p.1 ids)) me
def V5 (find:Nat->Option Ent)(ids:List Nat):Option (List (Nat×Ent)):=List.rec (motive:=fun _=>Option (List (Nat×Ent))) (some []) (fun i _ a=>Option.rec (motive:=fun _=>Option (List (Nat×Ent))) none (fun e=>Option.rec (motive:=fun _=>Option (List (Nat×Ent))) none (fun l=>some ((i,e)::l)) a) (find i)) ids
mutual
def AV.eqB:AV->AV->Bool |.any,.any=>true |.int k n,.int k' p=>decide (k=k') && decide (n=p) |.bool a,.bool b=>a == b |.str a,.str b=>a.data.toList == b.data.toList |.nilp,.nilp=>true |.nils,.nils=>true |.nilf,.nilf=>true |.ptr a b,.ptr c d=>aD a c && aD b d |.row a,.row b=>aD a b |.elt a b c d,.elt m l j h=>aD a m && (aD b l && (aD c j && aD d h)) |.der (.gs a b c) d,.der (.gs m l j) h=>aD a m && (aD b l && (aD c j && aD d h)) |.fn f cs,.fn g ds=>aD f g && AV.eqBL cs ds |.agg cs,.agg ds=>AV.eqBL cs ds |.tup cs,.tup ds=>AV.eqBL cs ds |_,_=>false
def AV.eqBL:List AV->List AV->Bool |[],[]=>true |a::r,b::s=>AV.eqB a b && AV.eqBL r s |_,_=>false
end
def eqPs:List (AV×AV)->List (AV×AV)->Bool |[],[]=>true |(a,b)::r,(c,d)::s=>AV.eqB a c && (AV.eqB b d && eqPs r s) |_,_=>false
def Ent.eqB:Ent->Ent->Bool |.box t cs,.box u ds=>aD t u && AV.eqBL cs ds |.gen t z cs,.gen u y ds=>aD t u && (aD z y && AV.eqBL cs ds) |.mp ps,.mp qs=>eqPs ps qs |.dead,.dead=>true |_,_=>false
def Ef (me:List (Nat×Ent)):List (Nat×Ent)->List (Nat×Ent)
 |[]=>[]
 |(i,e)::r=>match lkEr i me with
  |some a=>match Ent.eqB a e with
   |true=>Ef me r
   |false=>(i,e)::Ef me r
  |none=>(i,e)::Ef me r
inductive FT where
 |leaf (f:Nat) (fn:Func)
 |node (k:Nat) (l r:FT)
def FT.get (t:FT)(f:Nat):Option Func:=FT.rec (motive:=fun _=>Option Func) (fun g fn=>Bool.rec (motive:=fun _=>Option Func) none (some fn) (aD g f)) (fun k _ _ a b=>Bool.rec (motive:=fun _=>Option Func) b a (aS f k)) t
def FT.All (p:Nat->Func->Prop):FT->Prop |.leaf f fn=>p f fn |.node _ l r=>l.All p/\r.All p
theorem FT.All.get {p:Nat->Func->Prop}:∀ {t:FT},t.All p->∀ {f fn},t.get f=some fn->p f fn
 |.leaf g fn',h,f,fn,e=>by
  have e:Bool.rec (motive:=fun _=>Option Func) none (some fn') (aD g f)=some fn:=e;cases a:aD g f with
  |false=>rw [a] at e;cases e
  |true=>rw [a] at e;injection e with e;subst e;rw [<-aC a];exact h
 |.node k l r,h,f,fn,e=>by
  have e:Bool.rec (motive:=fun _=>Option Func) (r.get f) (l.get f) (aS f k)=some fn:=e;cases a:aS f k with
  |false=>rw [a] at e;exact FT.All.get h.2 e
  |true=>rw [a] at e;exact FT.All.get h.1 e
structure XE where
 E:Env
 t:FT
 ok:t.All fun f fn=>E.P.funcs[f]? = some fn/\Bh E f
inductive CR where
 |no
 |ok (e:Exit) (σ:AS) (k:Nat)
abbrev RecX:=Nat->Option Nat->Code->AS->Nat->CR
inductive NR where
 |no
 |ok (res:AV) (me me':List (Nat×Ent)) (k:Nat)
def newB (find:Nat->Option Ent)(ids:List Nat)(me':List (Nat×Ent)):Bool:=List.rec (motive:=fun _=>Bool) true (fun p _ a=>Bool.rec (motive:=fun _=>Bool) (Option.rec (motive:=fun _=>Bool) a (fun _=>false) (find p.1)) a (memR p.1 ids)) me'
def Y7 (find:Nat->Option Ent)(me:List (Nat×Ent))(ids:List Nat)(τ:AS)(res:AV)(k:Nat):NR :=
 let a:=Uz τ.fi V8 (ids++nmsR res []) []
 match V5 τ.fi a with
 |some me'=>match V7 a me' && (inMr a res && (zvz a me && newB find ids me')) with
  |true=>.ok res me me' k
  |false=>.no
 |none=>.no
def Mo (X:XE)(rec:RecX)(f:FuncId)(avs:List AV)(ids:List Nat)(find:Nat->Option Ent)(k:Nat):NR :=
 match X.t.get f with
 |some fn=>match fn.body,V5 find ids with
  |some c,some me=>match V7 ids me && (Mv ids avs && Nat.ble avs.length fn.ntmps) with
   |true=>fTm (Jm avs me).tm fun tm=>match rec fn.ntmps none c ⟨tm,me⟩ k with
    |.ok e τ k'=>match (match e with|.normal=>true|.ret=>true|_=>false),retA X.E.tab τ fn.results.toList with
     |true,some rs=>fAr (Fd rs) fun res=>Y7 find me ids τ res k'
     |_,_=>.no
    |.no=>.no
   |false=>.no
  |_,_=>.no
 |none=>.no
def zov (rec:RecX)(id:Nat)(ps:Array Tmp)(a b:Code)(nt:Nat)(lc avs:List AV)(ids:List Nat)(find:Nat->Option Ent)(k:Nat):NR :=
 match V5 find ids with
 |some me=>match V7 ids me && (Mv ids avs && (memR id ids && (ps.toList.all (fun p=>aS p nt) && (aD avs.length ps.size && Nat.ble lc.length nt)))) with
  |true=>fTm (R2 ps.toList avs lc me).tm fun tm=>match rec nt (some id) a ⟨tm,me⟩ k with
   |.ok .normal d s=>match d.fi id with
    |some (.lp _ j w u m false q)=>Hp d none .any [(id,.lp 0 j w u m true q)] fun g=>match rec nt (some id) b g s with
     |.ok .normal τ r=>match τ.fi id with
      |some (.lp _ h v t l true n)=>Hp τ none .any [(id,.lp 0 h v t l false n)] fun f=>Y7 find me ids f (.bool true) r
      |_=>.no
     |_=>.no
    |_=>.no
   |_=>.no
  |false=>.no
 |none=>.no
def NR.op:NR->OR
 |.no=>.no
 |.ok res me me' k=>.ok res (me.map (·.1)++me'.map (·.1)) (Ef me me') k
def zwo (X:XE)(rec:RecX)(o:Oper)(σ:AS)(k:Nat):OR :=
 match o.op with
 |.call c=>match c.callee with
  |.value x=>match A0 x && c.args.toList.all A0,σ.ev x with
   |true,.fn f cap=>fLs (zwr σ c.args cap) fun avs=>(Mo X rec f avs (Uz σ.fi V8 (Ra avs []) []) σ.fi k).op
   |true,.row id=>match σ.fi id with
    |some (.lp _ ps a b nt false lc)=>fLs (c.args.toList.map σ.ev) fun avs=>(zov rec id ps a b nt lc avs (Uz σ.fi V8 (id::Ra avs []) []) σ.fi k).op
    |_=>.no
   |_,_=>.no
  |_=>xOp X.E o σ k
 |_=>xOp X.E o σ k
def zq9 (os:Array Oper)(σ:AS):Option (Nat×Bool)->Option Bool
 |none=>some true
 |some (g,want)=>match Bb os g with
  |some t=>match σ.getR t with
   |.bool c=>some (c == want)
   |.tup []=>some false
   |_=>none
  |none=>none
def opsX (X:XE)(rec:RecX)(nt:Nat)(d:Bool)(os:Array Oper):List Oper->List Tr->AS->Nat->CR
 |[],trs,σ,k=>match d with
  |true=>match Hm os && cfR os trs.reverse with
   |true=>.ok .normal σ k
   |false=>.no
  |false=>.ok .normal σ k
 |o::l,trs,σ,k=>match dokN X.E nt o.dst,zq9 os σ o.guard with
  |true,some true=>match zwo X rec o σ k with
   |.no=>.no
   |.ok av ids wr k'=>Jq k' fun a=>Hp σ o.dst av wr fun σ'=>opsX X rec nt d os l (⟨av,ids,wr⟩::trs) σ' a
  |true,some false=>Hp σ o.dst (.tup []) [] fun σ'=>opsX X rec nt d os l (⟨.tup [],[],[]⟩::trs) σ' k
  |_,_=>.no
def zox (X:XE)(rec:RecX)(nt:Nat)(rd:Option Nat)(g:Operand)(ps:Array Tmp)(a b:Code)(σ:AS)(k:Nat):CR :=
 match A0 g,σ.ev g,σ.fi k with
 |true,.fn gf cap,none=>match (match rd with|none=>true|some id=>match σ.fi id with|some (.lp _ _ _ _ _ _ _)=>true|_=>false) with
  |true=>fLs ((aR nt).map σ.getR) fun lc=>Hp σ none .any [(k,.lp 0 ps a b nt false lc)] fun d=>match Mo X rec gf (.row k::cap) (Uz d.fi V8 (k::Ra cap []) []) d.fi (k+1) with
   |.ok res me me' k'=>match lkEr k me',memR k (me.map (·.1)) with
    |some (.lp _ _ _ _ _ false _),true=>Jq k' fun f=>Hp σ none .any ((k,.dead)::me') fun σ'=>.ok .normal σ' f
    |_,_=>.no
   |.no=>.no
  |false=>.no
 |_,_,_=>.no
def zu3:List Oper->Bool
 |[]=>false
 |o::r=>match o.op with
  |.insert _ _ _ _=>true
  |_=>zu3 r
def frzB:List Nat->AS->AS
 |[],σ=>σ
 |i::r,σ=>match σ.fi i with
  |some (.box _ cs)=>match AV.closedL cs with
   |true=>frzB r (σ.rpAll i Jp (.ref cs) .dead)
   |false=>frzB r σ
  |_=>frzB r σ
def frzK (σ:AS)(k:AS->α):α:=match frzB (σ.me.map (·.1)) σ with
 |⟨tm,me⟩=>fTm tm fun a=>Uy me [] fun me'=>k ⟨a,me'⟩
def Yn (X:XE)(rec:RecX)(nt:Nat)(rd:Option Nat)(c:Code)(σ:AS)(k:Nat):CR :=
 match c with
 |.skip=>.ok .normal σ k
 |.ret=>.ok .ret σ k
 |.exit id=>.ok (.exit id) σ k
 |.seq x y=>match rec nt rd x σ k with
  |.ok .normal σ' k'=>rec nt rd y σ' k'
  |r=>r
 |.block id x=>match rec nt rd x σ k with
  |.ok (.exit f) σ' k'=>match aD f id with
   |true=>.ok .normal σ' k'
   |false=>.ok (.exit f) σ' k'
  |r=>r
 |.cond c x y=>match A0 c,σ.ev c with
  |true,.bool true=>rec nt rd x σ k
  |true,.bool false=>rec nt rd y σ k
  |_,_=>.no
 |.region id os d=>match zu3 os.toList with
  |true=>frzK σ fun σ'=>opsX X rec nt d os os.toList [] σ' k
  |false=>opsX X rec nt d os os.toList [] σ k
 |.loop x=>match rec nt rd x σ k with
  |.ok .normal σ' k'=>rec nt rd (.loop x) σ' k'
  |r=>r
 |.rangeFunc g ps a b=>zox X rec nt rd g ps a b σ k
 |_=>.no
def evX (X:XE)(n:Nat):RecX:=Nat.rec (motive:=fun _=>RecX) (fun _ _ _ _ _=>.no) (fun _ rec=>fun nt rd c σ k=>Yn X rec nt rd c σ k) n
end
open Go.RowKit
noncomputable def Ec:Env:={ E0 with ld:=true }
noncomputable def ftr:FT:=.node 133 (.node 91 (.node 58 (.node 35 (.node 15 (.node 13 (.node 11 (.leaf 4 Tryz.f4) (.leaf 11 Tryz.f11)) (.node 14 (.leaf 13 Tryz.f13) (.leaf 14 Tryz.f14))) (.node 28 (.node 27 (.leaf 15 Tryz.f15) (.leaf 27 Tryz.f27)) (.node 33 (.leaf 28 Tryz.f28) (.leaf 33 Tryz.f33)))) (.node 54 (.node 45 (.node 36 (.leaf 35 Tryz.f35) (.leaf 36 Tryz.f36)) (.node 46 (.leaf 45 Tryz.f45) (.leaf 46 Tryz.f46))) (.node 56 (.node 55 (.leaf 54 Tryz.f54) (.leaf 55 Tryz.f55)) (.node 57 (.leaf 56 Tryz.f56) (.leaf 57 Tryz.f57))))) (.node 67 (.node 63 (.node 61 (.node 60 (.leaf 58 Tryz.f58) (.leaf 60 Tryz.f60)) (.node 62 (.leaf 61 Tryz.f61) (.leaf 62 Tryz.f62))) (.node 65 (.node 64 (.leaf 63 Tryz.f63) (.leaf 64 Tryz.f64)) (.node 66 (.leaf 65 Tryz.f65) (.leaf 66 Tryz.f66)))) (.node 78 (.node 75 (.node 68 (.leaf 67 Tryz.f67) (.leaf 68 Tryz.f68)) (.node 77 (.leaf 75 Tryz.f75) (.leaf 77 Tryz.f77))) (.node 80 (.node 79 (.leaf 78 Tryz.f78) (.leaf 79 Tryz.f79)) (.node 86 (.leaf 80 Tryz.f80) (.node 90 (.leaf 86 Tryz.f86) (.leaf 90 Tryz.f90))))))) (.node 108 (.node 99 (.node 95 (.node 93 (.node 92 (.leaf 91 Tryz.f91) (.leaf 92 Tryz.f92)) (.node 94 (.leaf 93 Tryz.f93) (.leaf 94 Tryz.f94))) (.node 97 (.node 96 (.leaf 95 Tryz.f95) (.leaf 96 Tryz.f96)) (.node 98 (.leaf 97 Tryz.f97) (.leaf 98 Tryz.f98)))) (.node 103 (.node 101 (.node 100 (.leaf 99 Tryz.f99) (.leaf 100 Tryz.f100)) (.node 102 (.leaf 101 Tryz.f101) (.leaf 102 Tryz.f102))) (.node 105 (.node 104 (.leaf 103 Tryz.f103) (.leaf 104 Tryz.f104)) (.node 106 (.leaf 105 Tryz.f105) (.node 107 (.leaf 106 Tryz.f106) (.leaf 107 Tryz.f107)))))) (.node 116 (.node 112 (.node 110 (.node 109 (.leaf 108 Tryz.f108) (.leaf 109 Tryz.f109)) (.node 111 (.leaf 110 Tryz.f110) (.leaf 111 Tryz.f111))) (.node 114 (.node 113 (.leaf 112 Tryz.f112) (.leaf 113 Tryz.f113)) (.node 115 (.leaf 114 Tryz.f114) (.leaf 115 Tryz.f115)))) (.node 125 (.node 123 (.node 122 (.leaf 116 Tryz.f116) (.leaf 122 Tryz.f122)) (.node 124 (.leaf 123 Tryz.f123) (.leaf 124 Tryz.f124))) (.node 128 (.node 127 (.leaf 125 Tryz.f125) (.leaf 127 Tryz.f127)) (.node 129 (.leaf 128 Tryz.f128) (.node 132 (.leaf 129 Tryz.f129) (.leaf 132 Tryz.f132)))))))) (.node 197 (.node 156 (.node 143 (.node 138 (.node 135 (.node 134 (.leaf 133 Tryz.f133) (.leaf 134 Tryz.f134)) (.node 136 (.leaf 135 Tryz.f135) (.leaf 136 Tryz.f136))) (.node 140 (.node 139 (.leaf 138 Tryz.f138) (.leaf 139 Tryz.f139)) (.node 141 (.leaf 140 Tryz.f140) (.leaf 141 Tryz.f141)))) (.node 147 (.node 145 (.node 144 (.leaf 143 Tryz.f143) (.leaf 144 Tryz.f144)) (.node 146 (.leaf 145 Tryz.f145) (.leaf 146 Tryz.f146))) (.node 149 (.node 148 (.leaf 147 Tryz.f147) (.leaf 148 Tryz.f148)) (.node 150 (.leaf 149 Tryz.f149) (.node 154 (.leaf 150 Tryz.f150) (.leaf 154 Tryz.f154)))))) (.node 185 (.node 179 (.node 166 (.node 157 (.leaf 156 Tryz.f156) (.leaf 157 Tryz.f157)) (.node 178 (.leaf 166 Tryz.f166) (.leaf 178 Tryz.f178))) (.node 182 (.node 180 (.leaf 179 Tryz.f179) (.leaf 180 Tryz.f180)) (.node 184 (.leaf 182 Tryz.f182) (.leaf 184 Tryz.f184)))) (.node 190 (.node 187 (.node 186 (.leaf 185 Tryz.f185) (.leaf 186 Tryz.f186)) (.node 188 (.leaf 187 Tryz.f187) (.leaf 188 Tryz.f188))) (.node 192 (.node 191 (.leaf 190 Tryz.f190) (.leaf 191 Tryz.f191)) (.node 194 (.leaf 192 Tryz.f192) (.node 196 (.leaf 194 Tryz.f194) (.leaf 196 Tryz.f196))))))) (.node 243 (.node 210 (.node 201 (.node 199 (.node 198 (.leaf 197 Tryz.f197) (.leaf 198 Tryz.f198)) (.node 200 (.leaf 199 Tryz.f199) (.leaf 200 Tryz.f200))) (.node 203 (.node 202 (.leaf 201 Tryz.f201) (.leaf 202 Tryz.f202)) (.node 205 (.leaf 203 Tryz.f203) (.leaf 205 Tryz.f205)))) (.node 224 (.node 214 (.node 211 (.leaf 210 Tryz.f210) (.leaf 211 Tryz.f211)) (.node 222 (.leaf 214 Tryz.f214) (.leaf 222 Tryz.f222))) (.node 226 (.node 225 (.leaf 224 Tryz.f224) (.leaf 225 Tryz.f225)) (.node 230 (.leaf 226 Tryz.f226) (.node 232 (.leaf 230 Tryz.f230) (.leaf 232 Tryz.f232)))))) (.node 261 (.node 252 (.node 250 (.node 248 (.leaf 243 Tryz.f243) (.leaf 248 Tryz.f248)) (.node 251 (.leaf 250 Tryz.f250) (.leaf 251 Tryz.f251))) (.node 259 (.node 255 (.leaf 252 Tryz.f252) (.leaf 255 Tryz.f255)) (.node 260 (.leaf 259 Tryz.f259) (.leaf 260 Tryz.f260)))) (.node 280 (.node 275 (.node 262 (.leaf 261 Tryz.f261) (.leaf 262 Tryz.f262)) (.node 276 (.leaf 275 Tryz.f275) (.leaf 276 Tryz.f276))) (.node 303 (.node 295 (.leaf 280 Tryz.f280) (.leaf 295 Tryz.f295)) (.node 313 (.leaf 303 Tryz.f303) (.node 318 (.leaf 313 Tryz.f313) (.leaf 318 Tryz.f318))))))))
theorem zy9:ftr.All fun f fn=>Ec.P.funcs[f]? = some fn/\Bh Ec f :=
 have e:∀ {f:Nat} {fn:Func},Tryz.prog.funcs[f]? = some fn->(∀ args w,(callFunc f args).run Tryz.prog w=.ok (.enter f args) w)->Ec.P.funcs[f]? = some fn/\Bh Ec f:=fun a b=>⟨a,b⟩
 ⟨⟨⟨⟨⟨⟨⟨e Tryz.func4 Tryz.call4,e Tryz.func11 Tryz.call11⟩,⟨e Tryz.func13 Tryz.call13,e Tryz.func14 Tryz.call14⟩⟩,⟨⟨e Tryz.func15 Tryz.call15,e Tryz.func27 Tryz.call27⟩,⟨e Tryz.func28 Tryz.call28,e Tryz.func33 Tryz.call33⟩⟩⟩,⟨⟨⟨e Tryz.func35 Tryz.call35,e Tryz.func36 Tryz.call36⟩,⟨e Tryz.func45 Tryz.call45,e Tryz.func46 Tryz.call46⟩⟩,⟨⟨e Tryz.func54 Tryz.call54,e Tryz.func55 Tryz.call55⟩,⟨e Tryz.func56 Tryz.call56,e Tryz.func57 Tryz.call57⟩⟩⟩⟩,⟨⟨⟨⟨e Tryz.func58 Tryz.call58,e Tryz.func60 Tryz.call60⟩,⟨e Tryz.func61 Tryz.call61,e Tryz.func62 Tryz.call62⟩⟩,⟨⟨e Tryz.func63 Tryz.call63,e Tryz.func64 Tryz.call64⟩,⟨e Tryz.func65 Tryz.call65,e Tryz.func66 Tryz.call66⟩⟩⟩,⟨⟨⟨e Tryz.func67 Tryz.call67,e Tryz.func68 Tryz.call68⟩,⟨e Tryz.func75 Tryz.call75,e Tryz.func77 Tryz.call77⟩⟩,⟨⟨e Tryz.func78 Tryz.call78,e Tryz.func79 Tryz.call79⟩,⟨e Tryz.func80 Tryz.call80,⟨e Tryz.func86 Tryz.call86,e Tryz.func90 Tryz.call90⟩⟩⟩⟩⟩⟩,⟨⟨⟨⟨⟨e Tryz.func91 Tryz.call91,e Tryz.func92 Tryz.call92⟩,⟨e Tryz.func93 Tryz.call93,e Tryz.func94 Tryz.call94⟩⟩,⟨⟨e Tryz.func95 Tryz.call95,e Tryz.func96 Tryz.call96⟩,⟨e Tryz.func97 Tryz.call97,e Tryz.func98 Tryz.call98⟩⟩⟩,⟨⟨⟨e Tryz.func99 Tryz.call99,e Tryz.func100 Tryz.call100⟩,⟨e Tryz.func101 Tryz.call101,e Tryz.func102 Tryz.call102⟩⟩,⟨⟨e Tryz.func103 Tryz.call103,e Tryz.func104 Tryz.call104⟩,⟨e Tryz.func105 Tryz.call105,⟨e Tryz.func106 Tryz.call106,e Tryz.func107 Tryz.call107⟩⟩⟩⟩⟩,⟨⟨⟨⟨e Tryz.func108 Tryz.call108,e Tryz.func109 Tryz.call109⟩,⟨e Tryz.func110 Tryz.call110,e Tryz.func111 Tryz.call111⟩⟩,⟨⟨e Tryz.func112 Tryz.call112,e Tryz.func113 Tryz.call113⟩,⟨e Tryz.func114 Tryz.call114,e Tryz.func115 Tryz.call115⟩⟩⟩,⟨⟨⟨e Tryz.func116 Tryz.call116,e Tryz.func122 Tryz.call122⟩,⟨e Tryz.func123 Tryz.call123,e Tryz.func124 Tryz.call124⟩⟩,⟨⟨e Tryz.func125 Tryz.call125,e Tryz.func127 Tryz.call127⟩,⟨e Tryz.func128 Tryz.call128,⟨e Tryz.func129 Tryz.call129,e Tryz.func132 Tryz.call132⟩⟩⟩⟩⟩⟩⟩,⟨⟨⟨⟨⟨⟨e Tryz.func133 Tryz.call133,e Tryz.func134 Tryz.call134⟩,⟨e Tryz.func135 Tryz.call135,e Tryz.func136 Tryz.call136⟩⟩,⟨⟨e Tryz.func138 Tryz.call138,e Tryz.func139 Tryz.call139⟩,⟨e Tryz.func140 Tryz.call140,e Tryz.func141 Tryz.call141⟩⟩⟩,⟨⟨⟨e Tryz.func143 Tryz.call143,e Tryz.func144 Tryz.call144⟩,⟨e Tryz.func145 Tryz.call145,e Tryz.func146 Tryz.call146⟩⟩,⟨⟨e Tryz.func147 Tryz.call147,e Tryz.func148 Tryz.call148⟩,⟨e Tryz.func149 Tryz.call149,⟨e Tryz.func150 Tryz.call150,e Tryz.func154 Tryz.call154⟩⟩⟩⟩⟩,⟨⟨⟨⟨e Tryz.func156 Tryz.call156,e Tryz.func157 Tryz.call157⟩,⟨e Tryz.func166 Tryz.call166,e Tryz.func178 Tryz.call178⟩⟩,⟨⟨e Tryz.func179 Tryz.call179,e Tryz.func180 Tryz.call180⟩,⟨e Tryz.func182 Tryz.call182,e Tryz.func184 Tryz.call184⟩⟩⟩,⟨⟨⟨e Tryz.func185 Tryz.call185,e Tryz.func186 Tryz.call186⟩,⟨e Tryz.func187 Tryz.call187,e Tryz.func188 Tryz.call188⟩⟩,⟨⟨e Tryz.func190 Tryz.call190,e Tryz.func191 Tryz.call191⟩,⟨e Tryz.func192 Tryz.call192,⟨e Tryz.func194 Tryz.call194,e Tryz.func196 Tryz.call196⟩⟩⟩⟩⟩⟩,⟨⟨⟨⟨⟨e Tryz.func197 Tryz.call197,e Tryz.func198 Tryz.call198⟩,⟨e Tryz.func199 Tryz.call199,e Tryz.func200 Tryz.call200⟩⟩,⟨⟨e Tryz.func201 Tryz.call201,e Tryz.func202 Tryz.call202⟩,⟨e Tryz.func203 Tryz.call203,e Tryz.func205 Tryz.call205⟩⟩⟩,⟨⟨⟨e Tryz.func210 Tryz.call210,e Tryz.func211 Tryz.call211⟩,⟨e Tryz.func214 Tryz.call214,e Tryz.func222 Tryz.call222⟩⟩,⟨⟨e Tryz.func224 Tryz.call224,e Tryz.func225 Tryz.call225⟩,⟨e Tryz.func226 Tryz.call226,⟨e Tryz.func230 Tryz.call230,e Tryz.func232 Tryz.call232⟩⟩⟩⟩⟩,⟨⟨⟨⟨e Tryz.func243 Tryz.call243,e Tryz.func248 Tryz.call248⟩,⟨e Tryz.func250 Tryz.call250,e Tryz.func251 Tryz.call251⟩⟩,⟨⟨e Tryz.func252 Tryz.call252,e Tryz.func255 Tryz.call255⟩,⟨e Tryz.func259 Tryz.call259,e Tryz.func260 Tryz.call260⟩⟩⟩,⟨⟨⟨e Tryz.func261 Tryz.call261,e Tryz.func262 Tryz.call262⟩,⟨e Tryz.func275 Tryz.call275,e Tryz.func276 Tryz.call276⟩⟩,⟨⟨e Tryz.func280 Tryz.call280,e Tryz.func295 Tryz.call295⟩,⟨e Tryz.func303 Tryz.call303,⟨e Tryz.func313 Tryz.call313,e Tryz.func318 Tryz.call318⟩⟩⟩⟩⟩⟩⟩⟩
noncomputable def Xc:XE:=⟨Ec,ftr,zy9⟩
open Go.RowKit
section
variable {E:Env} {nt:Nat} {o:Oper} {σ:AS} {k k':Nat} {av:AV} {ids:List Nat} {wr:List (Nat×Ent)}
abbrev Cj (E:Env)(nt:Nat)(o:Oper)(σ:AS)(av:AV)(ids:List Nat)(wr:List (Nat×Ent)):Prop:=∀ cx:Cx,CxO E nt cx->A9 cx o σ av ids wr
variable {T:Nat}{x:Operand}{i:TyI}
theorem zrj (m:o.op=.load T x)(n:dokN E nt o.dst=true)(l:A0 x=true)(p:lkT E.tab T=some i)(h:zuk σ k i (σ.eval x)=.ok av ids wr k'):Cj E nt o σ av ids wr:=by
 intro cx a;unfold zuk at h;simp only [aE,Db,Gq,Gr,Fn] at h;split at h
 ·rename_i id off d;split at h
  ·rename_i ty cs q;split at h
   ·rename_i b;split at h
    ·rename_i s;cases h;exact zbp m (a.dok n) l d (a.T p) b q (aB s)
    ·cases h
   ·rename_i b;split at h
    ·rename_i av g;cases h;exact zbo m (a.dok n) l d (a.T p) b q g
    ·cases h
  ·cases h
 ·rename_i id sz u j d;split at h
  ·rename_i ty t xs q;split at h
   ·rename_i el f r;have f:=aC f;subst f;split at h
    ·rename_i b;split at h
     ·rename_i s;cases h;exact z94 m (a.dok n) l d (a.T p) b q (aB s) r
     ·cases h
    ·rename_i b;split at h
     ·rename_i av g;cases h;exact zan m (a.dok n) l d (a.T p) b q r g
     ·cases h
   ·cases h
  ·cases h
 ·rename_i cs d;split at h
  ·rename_i b;split at h
   ·rename_i s;cases h;exact z73 m (a.dok n) l d (a.T p) b (aB s)
   ·cases h
  ·rename_i b;split at h
   ·cases h;exact z72 m (a.dok n) l d (a.T p) b
   ·cases h
 ·cases h
variable {y:Operand}
theorem zoa (p:o.op=.store T x y)(q:dokN E nt o.dst=true)(n:A0 x=true)(m:A0 y=true)(r:lkT E.tab T=some i)(h:zob σ k i (σ.eval y) (σ.eval x)=.ok av ids wr k'):Cj E nt o σ av ids wr:=by
 intro cx b;unfold zob at h;simp only [aE,zpu,Db,Gq] at h;split at h
 ·rename_i id off g;split at h
  ·rename_i ty cs d;split at h
   ·rename_i a;cases h;simp only [aA] at a;exact zp0 p (b.dok q) n m g rfl (b.T r) d (aB a.1) (nbeq a.2.1) a.2.2 rfl
   ·cases h
  ·cases h
 ·rename_i id sz z j g;split at h
  ·rename_i ty s xs d;split at h
   ·rename_i el f;split at h
    ·rename_i a;cases h;simp only [aA] at a;obtain ⟨l,w,v,u,t⟩:=a;have l:=nbeq l;subst l;exact zjh p (b.dok q) n m g rfl (b.T r) d f (nbeq w) (aB v) u (z9g t)
    ·cases h
   ·cases h
  ·cases h
 ·cases h
variable {ag:Option Bool}
theorem zoe {f fo fsz:Nat}{fs:List (Nat×Nat×Option Bool)}(n:o.op=.fieldAddr T x f)(q:dokN E nt o.dst=true)(l:A0 x=true)(s:lkT E.tab T=some i)(m:i.shape=.strct fs)(p:fs[f]? = some (fo,fsz,ag))(g:fsz≠0)(h:zof σ k fo (σ.eval x)=.ok av ids wr k'):Cj E nt o σ av ids wr:=by
 intro cx b;unfold zof at h;simp only [aE,Db,Gq,Gr,Fn] at h;split at h
 ·rename_i id off d;split at h
  ·rename_i ty cs a;cases h;exact z9e n (b.dok q) l d (b.T s) m p g a
  ·cases h
 ·rename_i id sz v j d;split at h
  ·rename_i ty t xs a;split at h
   ·rename_i r;cases h;simp only [aA] at r;have u:=nbeq r.1;subst u;exact z9c n (b.dok q) l d (b.T s) m p g a (by simpa using r.2)
   ·cases h
  ·cases h
 ·rename_i cs d;cases h;exact z5p n (b.dok q) l d (b.T s) m p g
 ·cases h
variable {e sz:Nat}
theorem zfd {eb:Nat}(q:o.op=.indexAddr T x y)(s:dokN E nt o.dst=true)(g:A0 x=true)(f:A0 y=true)(t:lkT E.tab T=some i)(j:i.shape=.slc e sz eb)(d:sz≠0)(h:Zo σ k sz (σ.eval x) (σ.eval y)=.ok av ids wr k'):Cj E nt o σ av ids wr:=by
 intro cx b;unfold Zo at h;rw [J9] at h;split at h
 ·rename_i p kd n l r;split at h
  ·rename_i m hm;split at h
   ·rename_i a;cases h;simp only [aA] at a;exact z8j q (b.dok s) g f l r (b.T t) j d (nbeq a.1) (Dz hm) (by simpa using a.2)
   ·cases h
  ·cases h
 ·cases h
theorem zo0 {vs:Array Value}(h:Ch vs.toList=true):vs.all (·.oneCell')=true:=Df h
theorem zfe {len esz:Nat}(q:o.op=.indexAddr T x y)(r:dokN E nt o.dst=true)(l:A0 y=true)(s:lkT E.tab T=some i)(p:i.shape=.arr len e esz ag)(j:esz≠0)(h:Zp E.ld σ k len esz x (σ.eval y)=.ok av ids wr k'):Cj E nt o σ av ids wr:=by
 intro cx b;unfold Zp at h;simp only [aE,aJ,Db] at h;split at h
 ·rename_i g kd n f;split at h
  ·rename_i vs m v hm;split at h
   ·rename_i a;cases h;simp only [aA] at a;exact z8k q (b.dok r) (b.ld.trans a.1) l v (zo0 a.2.2) f (b.T s) p j (Dz hm) (by simpa using a.2.1)
   ·cases h
  ·cases h
 ·rename_i z kd n u f;split at h
  ·rename_i id off m t d hm;split at h
   ·rename_i ty cs w;split at h
    ·rename_i a;cases h;exact z5o q (b.dok r) t l d f w (b.T s) p j (Dz hm) (by simpa using a)
    ·cases h
   ·cases h
  ·cases h
 ·cases h
theorem zrl {op:BinOp}{t u:Nat}{ka kb:IntKind}{m n:Int}(g:o.op=.binOp op t x y u)(l:dokN E nt o.dst=true)(f:A0 x=true)(d:A0 y=true)(j:σ.eval x=.int ka m)(a:σ.eval y=.int kb n)(h:zuo k op ka m kb n=.ok av ids wr k'):Cj E nt o σ av ids wr:=by
 intro cx p;unfold zuo at h;split at h
 ·rename_i av b;split at h
  ·rename_i q v;cases h;exact zx8 g (p.dok l) f d j a (by have:=Dz v;omega) b
  ·cases h
 ·split at h
  ·rename_i s;have s:ka=kb:=by simpa using s
   subst s;split at h
   ·split at h
    ·rename_i r;cases h;exact zxa g (p.dok l) f d j a (by simpa using r) rfl
    ·cases h
   ·split at h
    ·rename_i r;cases h;exact zx9 g (p.dok l) f d j a (by simpa using r) rfl
    ·cases h
   ·split at h
    ·rename_i av b;cases h;exact ztr g (p.dok l) f d j a b
    ·split at h
     ·rename_i av b;cases h;exact ztp g (p.dok l) f d j a b
     ·cases h
  ·cases h
theorem zun {op:BinOp}{t C:Nat}(u:o.op=.binOp op t x y C)(v:dokN E nt o.dst=true)(s:A0 x=true)(r:A0 y=true)(h:xBin E σ k op t (σ.eval x) (σ.eval y)=.ok av ids wr k'):Cj E nt o σ av ids wr:=by
 unfold xBin at h;simp only [J9] at h;split at h
 ·rename_i ka m kb n g d;exact zrl u v s r g d h
 ·rename_i a b g d;intro cx f;split at h
  ·rename_i i w;split at h
   ·rename_i j;cases h;exact zxg u (f.dok v) s r g d (Wr (cx.E.ok t i (f.T w)) j)
   ·rename_i j;cases h;exact zxd u (f.dok v) s r g d (Wr (cx.E.ok t i (f.T w)) j)
   ·cases h
  ·cases h
 ·rename_i a b g d;intro cx f;split at h
  ·rename_i c q;cases h;exact ztq u (f.dok v) s r g d q
  ·cases h
 ·rename_i cs ds g d;intro cx f;split at h
  ·rename_i c z q;cases h;exact Yh (op:=.eql) (aK rfl) u (f.dok v) s r g d (by rw [Cx.P,f.P];exact z) q
  ·rename_i c z q;cases h;exact Yh (op:=.neq) (aG rfl) u (f.dok v) s r g d (by rw [Cx.P,f.P];exact z) q
  ·cases h
 ·rename_i g d;intro cx f;split at h
  ·rename_i i w;split at h
   ·rename_i j;cases h;exact ztn (op:=.eql) (sz:=0) (l:=[]) (aK rfl) u (f.dok v) s r g d (f.T w) j
   ·rename_i j;cases h;exact ztn (op:=.neq) (sz:=0) (l:=[]) (aG rfl) u (f.dok v) s r g d (f.T w) j
   ·cases h
  ·cases h
 ·rename_i d D;intro cx f;split at h
  ·rename_i p i B w;split at h
   ·rename_i j A;cases h;exact z87 (op:=.eql) (aK rfl) u (f.dok v) s r B (by simpa using A) d (f.T w) j
   ·rename_i j A;cases h;exact z87 (op:=.neq) (aG rfl) u (f.dok v) s r B (by simpa using A) d (f.T w) j
   ·cases h
  ·cases h
 ·cases h
theorem zul (g:o.op=.call { callee:=.builtin .len,args:=#[x],argTypes:=#[T] })(j:dokN E nt o.dst=true)(f:A0 x=true)(l:lkT E.tab T=some i)(h:xLen σ k i (σ.eval x)=.ok av ids wr k'):Cj E nt o σ av ids wr:=by
 intro cx a;unfold xLen at h;simp only [J9,aE] at h;split at h
 ·rename_i e sz eb b;split at h
  ·rename_i d;cases h;exact zbq (ty:=0) g (a.dok j) f d (a.T l) b
  ·rename_i sz xs d;cases h;exact zlk (ty:=0) g (a.dok j) f d (a.T l) b
  ·split at h
   ·rename_i p m;cases h;exact znh g (a.dok j) f m (a.T l) b
   ·cases h
 ·rename_i b;split at h
  ·rename_i s d;cases h;exact zfw g (a.dok j) f d (a.T l) b
  ·cases h
 ·rename_i kt et b;split at h
  ·rename_i id d;split at h
   ·rename_i ps n;cases h;exact zfx g (a.dok j) f d n (a.T l) b
   ·cases h
  ·cases h
 ·cases h
theorem A9.cont {cx:Cx}{n d:Nat}{xs:List AV}(z:o.dst=some d)(B:lkE wr n=some (.gen e sz xs))(h:A9 cx o σ (.row n) ids wr):A9 cx o σ (.cont xs.length n) ids wr:=by
 refine ⟨h.1,fun τ h1 D a w Q K v C=>h.2 τ h1 D a w Q K v (fun H w' ⟨γ,b⟩=>C H w' ⟨γ,fun t=>?_,fun i=>?_,b.inj,b.ge,b.below,b.size,b.defers,b.gh,b.fr,b.dr⟩)⟩
 ·have f:=b.tm t;rw [AS.get_upd] at f ⊢;by_cases m:o.dst=some t
  ·rw [if_pos m] at f ⊢;have l:=b.me n;rw [aM,B] at l;obtain ⟨x,u,s,vs,r,h1,j,_⟩:=l;subst r;have q:=f.row_inv u (F9 h1);rcases j.2 with ⟨p,F⟩|⟨g,cap,G,p,_⟩
   ·refine .cont u (fun g A e=>?_) ⟨none,0,?_,fun I=>?_⟩
    ·injection e with e;injection e with _ e;subst e;rw [q,p];rfl
    ·rw [q,p,F]
    ·omega
   ·refine .cont u (fun g A e=>?_) ⟨some ⟨g,0,none⟩,cap,?_,fun _=>⟨g,0,rfl⟩⟩
    ·injection e with e;injection e with _ e;subst e;rw [q,p];rfl
    ·rw [q,p]
  ·rw [if_neg m] at f ⊢;exact f
 ·have:=b.me i;rw [aM] at this ⊢;exact this
theorem zrm {x:AV}{oid:Option Nat}{xs:List AV}(h:zup σ k e sz x=some (oid,xs)):(x=.nils/\oid=none/\xs=[])\/∃ id,RowC x id/\oid=some id/\id≠k/\σ.find id=some (.gen e sz xs):=by
 have key:∀ id,Y2 σ k e sz id=some (oid,xs)->oid=some id/\id≠k/\σ.find id=some (.gen e sz xs):=fun id h=>by
  unfold Y2 at h;rw [aE] at h;split at h
  ·rename_i m f d g;split at h
   ·rename_i a;simp only [aA,aF] at a;have l:=nbeq a.1;have j:=nbeq a.2.1;injection h with h
    injection h with h1 b
    subst h1 b l j;exact ⟨rfl,nbne a.2.2,g⟩
   ·cases h
  ·cases h
 unfold zup at h;split at h
 ·injection h with h;injection h with h1 b;exact aK ⟨rfl,h1.symm,b.symm⟩
 ·exact aG ⟨_,aK rfl,key _ h⟩
 ·exact aG ⟨_,aG ⟨_,rfl⟩,key _ h⟩
 ·cases h
variable {yids:List Nat}
theorem zri {y:AV}{ys:List AV}(h:zuj σ sz y=some (yids,ys)):(∃ p,Ce σ y=some p/\p.sz=sz/\ys=(p.xs.drop p.lo).take p.n/\p.id∈yids)\/(y=.nils/\ys=[]):=by
 unfold zuj at h;simp only [J9] at h;split at h
 ·injection h with h;injection h with h1 a;exact aG ⟨rfl,a.symm⟩
 ·split at h
  ·rename_i p b;split at h
   ·rename_i d;injection h with h;injection h with h1 a
    exact aK ⟨p,b,nbeq d,a.symm,by rw [<-h1];simp⟩
   ·cases h
  ·cases h
variable {T':Nat}
theorem zn8 (D:EnvO E){d:Nat}(w:o.op=.call { callee:=.builtin .append,args:=#[x,y],argTypes:=#[T,T'] })(a:o.dst=some d)(A:dokN E nt o.dst=true)(u:A0 x=true)(t:A0 y=true)(h:zj8 E σ k T T' (σ.eval x) (σ.eval y)=.ok av ids wr k'):Cj E nt o σ av ids wr:=by
 intro cx f;unfold zj8 at h;simp only [aE,Db,Gq,Gr,Fn] at h;split at h
 ·rename_i i C z;split at h
  ·rename_i e sz eb v;split at h
   ·rename_i ie m;split at h
    ·rename_i oid xs B j;simp only [aA,aF] at B;obtain ⟨F,J,I⟩:=B;have l:=zrm j;split at h
     ·rename_i b;have b:=nbeq b;subst b;split at h
      ·rename_i yids ys hm;split at h
       ·rename_i g;cases h;simp only [aA] at g;have:=zg1 (n:=k) (yids:=yids) w a (f.dok A) u t (f.T C) v (f.T m) (nbeq F) (nbne J) (nbeq I) l (zri hm) z (aB g.1) (aB g.2) (f.dr D);have:=this.cont (n:=k) (e:=e) (sz:=sz) (xs:=xs++ys) a (by simp [lkE])
        rwa [length_append] at this
       ·cases h
      ·cases h
     ·rename_i b;split at h
      ·rename_i K s r H G;split at h
       ·rename_i q;split at h
        ·rename_i g;cases h;simp only [aA] at g;have p:=nbeq g.1;subst p;have:=zd9 (n:=k) w a (f.dok A) u t (f.T C) v (f.T r) q (f.T m) (nbeq F) (nbeq g.2.1) G l H z (aB g.2.2) (f.dr D);have:=this.cont (n:=k) (e:=e) (sz:=1) (xs:=xs++D4 s) a (by simp [lkE])
         rwa [length_append,show (D4 s).length=s.size by simp [D4]] at this
        ·cases h
       ·cases h
      ·cases h
    ·cases h
   ·cases h
  ·cases h
 ·cases h
theorem zuh {y:AV}{ys:List AV}(h:xSrc σ y=some (yids,ys)):(∃ q,Ce σ y=some q/\q.sz=1/\ys=(q.xs.drop q.lo).take q.n/\q.id∈yids)\/y=.sl 1 ys:=by
 unfold xSrc at h;simp only [J9] at h;split at h
 ·split at h
  ·rename_i a;injection h with h;injection h with h1 b
   subst b;exact aG (by rw [nbeq a])
  ·cases h
 ·split at h
  ·rename_i q d;split at h
   ·rename_i a;injection h with h;injection h with h1 b
    exact aK ⟨q,d,nbeq a,b.symm,by rw [<-h1];simp⟩
   ·cases h
  ·cases h
theorem zrk (q:o.op=.call { callee:=.builtin .copy,args:=#[x,y],argTypes:=#[T,T'] })(r:dokN E nt o.dst=true)(l:A0 x=true)(j:A0 y=true)(s:lkT E.tab T=some i)(h:zum E σ k i (σ.eval x) (σ.eval y)=.ok av ids wr k'):Cj E nt o σ av ids wr:=by
 intro cx d;unfold zum at h;simp only [J9,Fn,Db] at h;split at h
 ·rename_i e sz eb m;split at h
  ·rename_i ie p yids ys b n a;split at h
   ·rename_i g;cases h;simp only [aA] at g;obtain ⟨f,w,v,u,t⟩:=g;have f:=nbeq f;subst f;exact zni q (d.dok r) l j n (nbeq v) (d.T s) m (d.T b) (nbeq w) (zuh a) (by simpa using u) (by simpa using t) rfl
   ·cases h
  ·cases h
 ·cases h
theorem zj7 (v:EnvO E){b:Builtin}{args:Array Operand}{tys:Array TypeId}(m:o.op=.call { callee:=.builtin b,args:=args,argTypes:=tys })(n:dokN E nt o.dst=true)(h:zd2 E σ k o b args.toList tys.toList=.ok av ids wr k'):Cj E nt o σ av ids wr:=by
 unfold zd2 at h;simp only [aJ] at h;split at h
 ·rename_i x T j g;have j:=Ja j;have g:=Ja g;subst j;subst g;split at h
  ·rename_i i t s;exact zul m n t s h
  ·cases h
 ·rename_i x T j g;have j:=Ja j;have g:=Ja g;subst j;subst g;split at h
  ·rename_i i t s q;split at h
   ·rename_i u;cases h;exact fun cx p=>zbr m (p.dok n) t q (p.T s) u
   ·cases h
  ·cases h
 ·rename_i x y j;have j:=Gh j;subst j;split at h
  ·rename_i ka a kb b f q l;cases h;simp only [aA] at f;exact fun cx p=>zxf m (p.dok n) f.1 f.2 q l
  ·cases h
 ·rename_i x y j;have j:=Gh j;subst j;split at h
  ·rename_i ka a kb b f q l;cases h;simp only [aA] at f;exact fun cx p=>zxe m (p.dok n) f.1 f.2 q l
  ·cases h
 ·rename_i x y T T' j g;have j:=Gh j;have g:=Gh g;subst j;subst g;split at h
  ·rename_i d f r;simp only [aA] at f;exact zn8 v m r n f.1 f.2 h
  ·cases h
 ·rename_i x y T T' j g;have j:=Gh j;have g:=Gh g;subst j;subst g;split at h
  ·rename_i i f s;simp only [aA] at f;exact zrk m n f.1 f.2 s h
  ·cases h
 ·cases h
theorem zoc {lo hi:Option Operand}(r:o.op=.slice T x lo hi none)(u:dokN E nt o.dst=true)(q:A0 x=true)(d:opdO lo=true)(f:opdO hi=true)(v:lkT E.tab T=some i)(h:zod σ k i lo hi (σ.eval x)=.ok av ids wr k'):Cj E nt o σ av ids wr:=by
 intro cx g;unfold zod at h;simp only [J9,zwp] at h;split at h
 ·rename_i s t m;split at h
  ·rename_i l w h1 n;split at h
   ·rename_i z D b a;split at h
    ·rename_i j;cases h;simp only [aA] at j;have b:=Dz b;have a:=Dz a;subst b a;exact z91 r (g.dok u) q d f t (g.T v) m h1 n (aB j.1) (aB j.2)
    ·cases h
   ·cases h
  ·cases h
 ·rename_i e sz eb t m;split at h
  ·rename_i l w A h1 n;split at h
   ·rename_i b a;cases h;have b:=Dz b;have a:=Dz a;subst b a;exact z86 r (g.dok u) q d f t (g.T v) m (nbne A) h1 n
   ·cases h
  ·cases h
 ·rename_i e sz eb m C;split at h
  ·rename_i p B;split at h
   ·rename_i l w h1 n;split at h
    ·rename_i z D b a;split at h
     ·rename_i j;cases h;simp only [aA,aF,aP] at j;obtain ⟨J,I,H,G,F⟩:=j;have b:=Dz b;have a:=Dz a;subst b a;exact zfv r (g.dok u) q d f B (g.T v) m (nbne J) (nbeq I) h1 n (aB H) (aB G) (F.imp nbeq nbeq)
     ·cases h
    ·cases h
   ·cases h
  ·cases h
 ·cases h
theorem zj6 {j:TyI}(t:o.op=.convert T T' x)(u:dokN E nt o.dst=true)(s:A0 x=true)(v:lkT E.tab T=some i)(b:lkT E.tab T'=some j)(h:zd1 E σ k i j (σ.eval x)=.ok av ids wr k'):Cj E nt o σ av ids wr:=by
 intro cx a;unfold zd1 at h;simp only [J9] at h;split at h
 ·rename_i kd l;split at h
  ·rename_i kn n z;cases h;exact zfz t (a.dok u) s z (a.T v) (a.T b) l
  ·cases h
 ·rename_i g;split at h
  ·rename_i e sz eb p l w;split at h
   ·rename_i ie A r m q;simp only [aA] at r;have d:=nbeq r.1;subst d;split at h
    ·rename_i f;cases h;exact zd6 t (a.dok u) s w (nbeq r.2) (a.T v) l (a.T b) g (a.T m) f q
    ·cases h
   ·cases h
  ·cases h
 ·cases h
theorem zn5 {ok:Bool}(m:o.op=.lookup T x y ok)(q:dokN E nt o.dst=true)(j:A0 x=true)(g:A0 y=true)(s:lkT E.tab T=some i)(h:zj3 E σ k i (σ.eval y) ok (σ.eval x)=.ok av ids wr k'):Cj E nt o σ av ids wr:=by
 intro cx a;unfold zj3 at h;simp only [aE,Db,Gq,Gr,Fn] at h;split at h
 ·rename_i id p;split at h
  ·rename_i kt et ps l n;split at h
   ·rename_i ie b;split at h
    ·rename_i r f d;cases h;simp only [aA] at f;exact zd7 m (a.dok q) j g p rfl n (a.T s) l (a.T b) (Ud f.1) (by rw [Cx.P,a.P];exact f.2) d (Sub.refl _)
    ·cases h
   ·cases h
  ·cases h
 ·cases h
theorem zbj {z:Operand}(m:o.op=.mapUpdate T x y z\/o.op=.insert T x y z)(q:dokN E nt o.dst=true)(j:A0 x=true)(g:A0 y=true)(f:A0 z=true)(s:lkT E.tab T=some i)(h:Xm E σ k i (σ.eval y) (σ.eval z) (σ.eval x)=.ok av ids wr k'):Cj E nt o σ av ids wr:=by
 intro cx b;unfold Xm at h;simp only [aE,Db,Gq,Gr,Fn] at h;split at h
 ·rename_i id p;split at h
  ·rename_i kt et ps l n;split at h
   ·rename_i r d a;cases h;simp only [aA] at d;exact z92 m (b.dok q) j g f p rfl rfl n (b.T s) l (by rw [Cx.P,b.P];exact d.2) d.1 a (SubM.refl _)
   ·cases h
  ·cases h
 ·cases h
variable {ps:Array (Nat×Operand)}
theorem zai {n:Nat}(r:o.op=.buildSlice T n ps)(t:dokN E nt o.dst=true)(f:Dq σ ps=true)(u:lkT E.tab T=some i)(h:Z7 E σ k o i n ps=.ok av ids wr k'):Cj E nt o σ av ids wr:=by
 intro cx j;unfold Z7 at h;simp only [aE,zg4,Gq] at h;split at h
 ·rename_i e esz eb d q b s;split at h
  ·rename_i ie g;split at h
   ·rename_i fl l;split at h
    ·rename_i m;cases h;simp only [aA,aF,aP] at m;obtain ⟨G,F,D,C,B⟩:=m;have a:=Wi _ _ _ _ l;rw [length_replicate] at a;obtain ⟨A,z,w⟩:=Zd ie.shape.agg esz _ fl a (B.imp id (fun ⟨h1,v⟩=>⟨nbeq h1,v⟩));exact z8m r b (j.dok t) (j.T u) q (j.T g) (nbne G) F (Df D) C f z (by simp only [all_eq_true];intro x p;rw [w x p];simp) (by rw [A];exact l) s
    ·cases h
   ·cases h
  ·cases h
 ·cases h
theorem zd0 (z:EnvO E)(s:o.op=.makeSlice T x y)(v:dokN E nt o.dst=true)(q:A0 x=true)(p:A0 y=true)(w:lkT E.tab T=some i)(h:Zf E σ k o i (σ.eval x) (σ.eval y)=.ok av ids wr k'):Cj E nt o σ av ids wr:=by
 intro cx f;unfold Zf at h;simp only [aE,Db,Gq,Gr,Fn] at h;split at h
 ·rename_i e esz eb d r b t;split at h
  ·rename_i ie kn n kc c g u j;split at h
   ·rename_i m H hm a;split at h
    ·rename_i l;cases h;simp only [aA,aF] at l;obtain ⟨G,F,D,C,B,A⟩:=l;have a:=Dz a;subst a;exact z93 s b (f.dok v) q p u j (aB C) (f.T w) r (f.T g) (nbne G) F (Df D) t (Dz hm) (aB B) (aB A) (f.dr z)
    ·cases h
   ·cases h
  ·cases h
 ·cases h
theorem zog (m:o.op=.build T ps)(p:dokN E nt o.dst=true)(a:Dq σ ps=true)(q:lkT E.tab T=some i)(h:zoh σ k i ps=.ok av ids wr k'):Cj E nt o σ av ids wr:=by
 intro cx b;unfold zoh at h;simp only [zg4,Db] at h;split at h
 ·rename_i fs g f;split at h
  ·rename_i cs j l;cases h;exact z7k m (b.dok p) (b.T q) g (Df f) a j l
  ·cases h
 ·rename_i n e esz ag g f;split at h
  ·rename_i cs d l;cases h;exact z9f m (b.dok p) (b.T q) g (Df f) a (nbne d) l
  ·cases h
 ·cases h
theorem zn7 {f:Nat}(l:o.op=.field T x f)(n:dokN E nt o.dst=true)(g:A0 x=true)(p:lkT E.tab T=some i)(h:zj5 k i f (σ.eval x)=.ok av ids wr k'):Cj E nt o σ av ids wr:=by
 intro cx a;unfold zj5 at h;simp only [Db] at h;split at h
 ·rename_i cs m;split at h
  ·rename_i fs j;split at h
   ·rename_i fo fsz b;split at h
    ·rename_i q r;cases h;exact z9b l (a.dok n) g m (a.T p) j b (nbne q) (aB r)
    ·cases h
   ·rename_i fo fsz b;split at h
    ·rename_i av d;cases h;exact z9a l (a.dok n) g m (a.T p) j b d
    ·cases h
   ·cases h
  ·cases h
 ·cases h
theorem zn6 (r:o.op=.index T x y)(t:dokN E nt o.dst=true)(q:A0 x=true)(p:A0 y=true)(w:lkT E.tab T=some i)(h:zj4 k i (σ.eval x) (σ.eval y)=.ok av ids wr k'):Cj E nt o σ av ids wr:=by
 intro cx f;unfold zj4 at h;simp only [Db] at h;split at h
 ·rename_i cs kn n j a;split at h
  ·rename_i len e esz ag m g hm;split at h
   ·rename_i l d;split at h
    ·rename_i u;cases h;exact z97 r (f.dok t) q p j a (f.T w) g (nbne l) (Dz hm) (by simpa using d) (aB u)
    ·cases h
   ·rename_i l d;split at h
    ·rename_i av v;cases h;exact z96 r (f.dok t) q p j a (f.T w) g (nbne l) (Dz hm) (by simpa using d) v
    ·cases h
   ·cases h
  ·cases h
 ·rename_i s kn n j a;split at h
  ·rename_i m g hm;split at h
   ·rename_i b u;cases h;exact zjm r (f.dok t) q p j a (f.T w) g (Dz hm) u
   ·cases h
  ·cases h
 ·cases h
theorem zui (d:o.op=.nilCheck x)(g:dokN E nt o.dst=true)(b:A0 x=true)(h:xNil σ k (σ.eval x)=.ok av ids wr k'):Cj E nt o σ av ids wr:=by
 intro cx l;unfold xNil at h;simp only [aE,Db,Gq,Gr,Fn] at h;split at h
 ·rename_i id off a;split at h
  ·rename_i ty cs f;cases h;exact z71 d (l.dok g) b a f
  ·cases h
 ·rename_i id sz q j a;split at h
  ·rename_i ty n xs f;split at h
   ·rename_i m;cases h;simp only [aA] at m;have p:=nbeq m.1;subst p;exact zam d (l.dok g) b a f (by simpa using m.2)
   ·cases h
  ·cases h
 ·rename_i cs a;cases h;exact z6z d (l.dok g) b a
 ·cases h
theorem zth (I:EnvO E)(q:dokN E nt o.dst=true)(h:xOp E o σ k=.ok av ids wr k'):Cj E nt o σ av ids wr:=by
 unfold xOp at h;simp only [aJ,aE,zpu,zjp,Db] at h;split at h
 ·rename_i x l;split at h
  ·rename_i s;cases h;exact fun cx r=>zto l (r.dok q) s rfl
  ·cases h
 ·rename_i x l;split at h
  ·rename_i s;cases h;exact fun cx r=>zln l (r.dok q) s rfl
  ·cases h
 ·rename_i c x y l;split at h
  ·rename_i m w;cases h;simp only [aA] at m;exact fun cx r=>Z8 l (r.dok q) m.1 m.2.1 w rfl rfl
  ·rename_i m w;cases h;simp only [aA] at m;exact fun cx r=>Z2 l (r.dok q) m.1 m.2.2 w rfl rfl
  ·cases h
 ·rename_i x l;split at h
  ·rename_i s;exact zui l q s h
  ·cases h
 ·rename_i op T x y K l;split at h
  ·rename_i m;simp only [aA] at m;exact zun l q m.1 m.2 h
  ·cases h
 ·rename_i t x l;split at h
  ·rename_i b s D;cases h;exact fun cx r=>zxb l (r.dok q) s D
  ·cases h
 ·rename_i t x l;split at h
  ·rename_i kd a s D;cases h;exact fun cx r=>zxc l (r.dok q) s D rfl
  ·cases h
 ·rename_i T l;split at h
  ·rename_i d i u p B;split at h
   ·rename_i v;cases h;exact fun cx r=>zrw l u (r.dok q) (r.T p) B (Df v)
   ·cases h
  ·cases h
 ·rename_i T x l;split at h
  ·rename_i d u B;split at h
   ·rename_i m;cases h;simp only [aA] at m;exact fun cx r=>zxi l u (r.dok q) m.1 rfl m.2 B
   ·cases h
  ·cases h
 ·rename_i T x f l;split at h
  ·rename_i i s p;split at h
   ·rename_i fs A;split at h
    ·rename_i fo fsz ag J;split at h
     ·rename_i v;exact zoe l q s p A J (nbne v) h
     ·cases h
    ·cases h
   ·cases h
  ·cases h
 ·rename_i T x l;split at h
  ·rename_i i s p;exact zrj l q s p h
  ·cases h
 ·rename_i T x y l;split at h
  ·rename_i i g p;simp only [aA] at g;exact zoa l q g.1 g.2 p h
  ·cases h
 ·rename_i T x y l;split at h
  ·rename_i i H p;split at h
   ·rename_i e sz eb A;split at h
    ·rename_i s v;exact zfd l q s H p A (nbne v) h
    ·cases h
   ·rename_i len e esz ag A;split at h
    ·rename_i v;exact zfe l q H p A (nbne v) h
    ·cases h
   ·cases h
  ·cases h
 ·rename_i T x f l;split at h
  ·rename_i i s p;exact zn7 l q s p h
  ·cases h
 ·rename_i T x y l;split at h
  ·rename_i i g p;simp only [aA] at g;exact zn6 l q g.1 g.2 p h
  ·cases h
 ·rename_i x ix l;split at h
  ·rename_i cs s D;split at h
   ·rename_i av F;cases h;exact fun cx r=>zfy l (r.dok q) s D F
   ·cases h
  ·cases h
 ·rename_i T ps l;split at h
  ·rename_i i p m;exact zog l q m p h
  ·cases h
 ·rename_i T n ps l;split at h
  ·rename_i i p m;exact zai l q m p h
  ·cases h
 ·rename_i T x y l;split at h
  ·rename_i i g p;simp only [aA] at g;exact zd0 I l q g.1 g.2 p h
  ·cases h
 ·rename_i T l;split at h
  ·rename_i d u B;cases h;exact fun cx r=>zng l u (r.dok q) B
  ·cases h
 ·rename_i T x y ok l;split at h
  ·rename_i i g p;simp only [aA] at g;exact zn5 l q g.1 g.2 p h
  ·cases h
 ·rename_i T x y z l;split at h
  ·rename_i i g p;simp only [aA] at g;exact zbj (aK l) q g.1 g.2.1 g.2.2 p h
  ·cases h
 ·rename_i T x y z l;split at h
  ·rename_i i g p;simp only [aA] at g;exact zbj (aG l) q g.1 g.2.1 g.2.2 p h
  ·cases h
 ·rename_i T x lo hi l;split at h
  ·rename_i i g p;simp only [aA] at g;exact zoc l q g.1 g.2.1 g.2.2 p h
  ·cases h
 ·rename_i T T' x l;split at h
  ·rename_i i j s p G;exact zj6 l q s p G h
  ·cases h
 ·rename_i f first ps l;split at h
  ·rename_i C m;cases h;have:first=#[]:=by cases first;simp at C;subst C;rfl
   subst this;exact fun cx r=>zbm l (r.dok q) m (by rw [AS.ev_eq'])
  ·cases h
 ·rename_i c l;obtain ⟨callee,args,tys⟩:=c;simp only at h;split at h
  ·exact zj7 I l q h
  ·cases h
 ·cases h
end
open Go.RowKit
variable {α:Type}
theorem Y9:∀ (l:List (Nat×AV)) (k:List (Nat×AV)->α),fTm l k=k l
 |[],k=>rfl
 |(u,x)::r,k=>by
  show Jq u (fun b=>fSh x fun a=>fTm r fun d=>k ((b,a)::d))=_;rw [Fn,zqc,Y9]
def setE (d:Nat)(v:Ent):List (Nat×Ent)->List (Nat×Ent)
 |[]=>[(d,v)]
 |p::r=>match aD p.1 d with
  |true=>(d,v)::r
  |false=>p::setE d v r
theorem zlh (d:Nat)(v:Ent):∀ (l:List (Nat×Ent)) (k:List (Nat×Ent)->α),Yf d v l k=k (setE d v l)
 |[],k=>rfl
 |p::r,k=>by
  show Bool.rec (motive:=fun _=>α) (Yf d v r fun a=>k (p::a)) (k ((d,v)::r)) (aD p.1 d)=_;rw [zlh,setE];cases aD p.1 d<;>rfl
def Jt:List (Nat×Ent)->List (Nat×Ent)->List (Nat×Ent) |[],me=>me |p::r,me=>setE p.1 p.2 (Jt r me)
theorem X2 (me:List (Nat×Ent)):∀ (wr:List (Nat×Ent)) (k:List (Nat×Ent)->α),Uy wr me k=k (Jt wr me)
 |[],k=>rfl
 |p::r,k=>by
  show Uy r me (fun me'=>Yf p.1 p.2 me' k)=_;rw [X2,zlh,Jt]
theorem zsi (d:Nat)(v:Ent)(l:List (Nat×Ent))(i:Nat):lkE (setE d v l) i=if d=i then some v else lkE l i:=by
 induction l with
 |nil =>
  simp only [setE,lkE];by_cases h:d=i
  ·subst h;simp
  ·rw [if_neg h];cases a:aD d i with
   |true=>exact absurd (aC a) h
   |false=>rfl
 |cons p r ih =>
  obtain ⟨u,x⟩:=p;simp only [setE];cases b:aD u d with
  |true =>
   have:=aC b;subst this;simp only [lkE];by_cases h:u=i
   ·subst h;simp
   ·rw [if_neg h];cases a:aD u i with
    |true=>exact absurd (aC a) h
    |false=>rfl
  |false =>
   simp only [lkE];cases a:aD u i with
   |true =>
    have:=aC a;subst this;rw [if_neg (fun e=>aL b e.symm)]
   |false=>exact ih
theorem zh0 (wr me:List (Nat×Ent))(i:Nat):lkE (Jt wr me) i=(lkE wr i).or (lkE me i):=by
 induction wr with
 |nil=>rfl
 |cons p r ih =>
  obtain ⟨u,x⟩:=p;simp only [Jt,zsi,lkE];by_cases h:u=i
  ·subst h;simp
  ·rw [if_neg h,ih];cases a:aD u i with
   |true=>exact absurd (aC a) h
   |false=>rfl
def putS (σ:AS)(d:Option Nat)(av:AV)(wr:List (Nat×Ent)):AS:=⟨putD d av σ.tm,Jt wr σ.me⟩
theorem Ql (σ:AS)(d:Option Nat)(av:AV)(wr:List (Nat×Ent))(k:AS->α):Hp σ d av wr k=k (putS σ d av wr):=by
 obtain ⟨tm,me⟩:=σ;cases d with
 |none=>simp only [Hp,X2];rfl
 |some d=>simp only [Hp,X2,zqc];rfl
theorem Qm (σ:AS)(d:Option Nat)(av:AV)(wr:List (Nat×Ent)):Ext (putS σ d av wr) (σ.upd d av wr) :=
 ⟨fun t=>rfl,fun i=>by rw [aM];exact zh0 wr σ.me i⟩
theorem zw1 (ids:List Nat)(e:Ent):inER ids e=e.inM ids:=by cases e<;>simp only [inER,Ent.inM,zdr]
theorem zdq (ids:List Nat)(me:List (Nat×Ent)):V7 ids me=me.all (fun x=>x.2.inM ids):=by
 induction me with
 |nil=>rfl
 |cons p r a =>
  show Bool.rec (motive:=fun _=>Bool) false (V7 ids r) (inER ids p.2)=_;rw [a,zw1,all_cons];cases p.2.inM ids<;>rfl
theorem zsm (ids:List Nat)(me:List (Nat×Ent)):zvz ids me=me.all (fun x=>memB x.1 ids):=by
 induction me with
 |nil=>rfl
 |cons p r a =>
  show Bool.rec (motive:=fun _=>Bool) false (zvz ids r) (memR p.1 ids)=_;rw [a,Fu,all_cons];cases memB p.1 ids<;>rfl
theorem zdb (find:Nat->Option Ent)(ids:List Nat):V5 find ids=C9 find ids:=by
 induction ids with
 |nil=>rfl
 |cons i r a =>
  show Option.rec (motive:=fun _=>Option (List (Nat×Ent))) none (fun e=>Option.rec (motive:=fun _=>Option (List (Nat×Ent))) none (fun l=>some ((i,e)::l)) (V5 find r)) (find i)=_;rw [a,C9];cases find i with
  |none=>rfl
  |some e=>cases C9 find r<;>rfl
variable {find:Nat->Option Ent}{ids:List Nat}{me':List (Nat×Ent)}
theorem zvr (h:newB find ids me'=true):∀ i,lkE me' i≠none->i∈ids\/find i=none:=by
 have key:∀ p∈me',p.1∈ids\/find p.1=none:=by
  induction me' with
  |nil=>intro p a;cases a
  |cons q r ih =>
   have h:Bool.rec (motive:=fun _=>Bool) (Option.rec (motive:=fun _=>Bool) (newB find ids r) (fun _=>false) (find q.1)) (newB find ids r) (memR q.1 ids)=true:=h;intro p a;cases hm:memR q.1 ids with
   |true =>
    rw [hm] at h;rcases mem_cons.1 a with rfl|a
    ·rw [Fu] at hm;exact aK ((Ct _ _).1 hm)
    ·exact ih h p a
   |false =>
    rw [hm] at h;cases b:find q.1 with
    |some e=>rw [b] at h;cases h
    |none =>
     rw [b] at h;rcases mem_cons.1 a with rfl|a
     ·exact aG b
     ·exact ih h p a
 intro i hi;cases d:lkE me' i with
 |none=>exact absurd d hi
 |some e=>exact key _ (Ea d)
theorem ztc {a b:ByteArray}(h:(a.data.toList == b.data.toList)=true):a=b:=by
 have h:a.data.toList=b.data.toList:=by simpa using h
 exact ByteArray.ext (Array.toList_inj.1 h)
mutual
theorem AV.eqB_ok:(a:AV)->∀ b:AV,AV.eqB a b=true->a=b
 |.any=>fun b h=>by cases b<;>first|rfl|(simp [AV.eqB] at h;done)
 |.int k n=>fun b h=>by
  cases b<;>first|(simp only [AV.eqB,aA,decide_eq_true_eq] at h;rw [h.1,h.2])|(simp [AV.eqB] at h;done)
 |.bool c=>fun b h=>by cases b<;>first|(simp only [AV.eqB,beq_iff_eq] at h;rw [h])|(simp [AV.eqB] at h;done)
 |.str s=>fun b h=>by cases b<;>first|(unfold AV.eqB at h;rw [ztc h])|(simp [AV.eqB] at h;done)
 |.nilp=>fun b h=>by cases b<;>first|rfl|(simp [AV.eqB] at h;done)
 |.nils=>fun b h=>by cases b<;>first|rfl|(simp [AV.eqB] at h;done)
 |.nilf=>fun b h=>by cases b<;>first|rfl|(simp [AV.eqB] at h;done)
 |.ptr i j=>fun b h=>by cases b<;>first|(simp only [AV.eqB,aA] at h;rw [nbeq h.1,nbeq h.2])|(simp [AV.eqB] at h;done)
 |.row i=>fun b h=>by cases b<;>first|(simp only [AV.eqB] at h;rw [nbeq h])|(simp [AV.eqB] at h;done)
 |.elt i j k l=>fun b h=>by cases b<;>first|(simp only [AV.eqB,aA] at h;rw [nbeq h.1,nbeq h.2.1,nbeq h.2.2.1,nbeq h.2.2.2])|(simp [AV.eqB] at h;done)
 |.der m i=>fun b h=>by
  cases m with
  |gs x y z =>
   cases b with
   |der d j =>
    cases d with
    |gs r q p=>simp only [AV.eqB,aA] at h;rw [nbeq h.1,nbeq h.2.1,nbeq h.2.2.1,nbeq h.2.2.2]
    |_=>simp [AV.eqB] at h
   |_=>simp [AV.eqB] at h
  |_=>cases b<;>simp [AV.eqB] at h
 |.fn f cs=>fun b h=>by
  cases b with
  |fn g ds=>simp only [AV.eqB,aA] at h;rw [nbeq h.1,AV.eqBL_ok cs ds h.2]
  |_=>simp [AV.eqB] at h
 |.agg cs=>fun b h=>by
  cases b with
  |agg ds=>simp only [AV.eqB] at h;rw [AV.eqBL_ok cs ds h]
  |_=>simp [AV.eqB] at h
 |.tup cs=>fun b h=>by
  cases b with
  |tup ds=>simp only [AV.eqB] at h;rw [AV.eqBL_ok cs ds h]
  |_=>simp [AV.eqB] at h
 |.mapv _=>fun b h=>by cases b<;>simp [AV.eqB] at h
 |.sl _ _=>fun b h=>by cases b<;>simp [AV.eqB] at h
 |.yld _ _ _=>fun b h=>by cases b<;>simp [AV.eqB] at h
 |.ref _=>fun b h=>by cases b<;>simp [AV.eqB] at h
 |.slen _=>fun b h=>by cases b<;>simp [AV.eqB] at h
 |.cont _ _=>fun b h=>by cases b<;>simp [AV.eqB] at h
theorem AV.eqBL_ok:(a:List AV)->∀ b:List AV,AV.eqBL a b=true->a=b
 |[]=>fun b h=>by cases b<;>first|rfl|(simp [AV.eqBL] at h;done)
 |x::r=>fun b h=>by
  cases b with
  |nil=>simp [AV.eqBL] at h
  |cons y s=>simp only [AV.eqBL,aA] at h;rw [AV.eqB_ok x y h.1,AV.eqBL_ok r s h.2]
end
theorem zqf:(a b:List (AV×AV))->eqPs a b=true->a=b
 |[],b,h=>by cases b<;>first|rfl|(simp [eqPs] at h;done)
 |(x,y)::r,b,h=>by
  cases b with
  |nil=>simp [eqPs] at h
  |cons q s =>
   obtain ⟨z,w⟩:=q;simp only [eqPs,aA] at h;rw [AV.eqB_ok _ _ h.1,AV.eqB_ok _ _ h.2.1,zqf _ _ h.2.2]
theorem Ent.eqB_ok (a b:Ent)(h:Ent.eqB a b=true):a=b:=by
 cases a<;>cases b<;>first|rfl|(simp [Ent.eqB] at h;done)|skip
 ·simp only [Ent.eqB,aA] at h;rw [nbeq h.1,AV.eqBL_ok _ _ h.2]
 ·simp only [Ent.eqB] at h;rw [zqf _ _ h]
 ·simp only [Ent.eqB,aA] at h;rw [nbeq h.1,nbeq h.2.1,AV.eqBL_ok _ _ h.2.2]
variable {me:List (Nat×Ent)}
theorem zhd {i:Nat}{f:Ent}(g:lkE me i=some f):∀ r:List (Nat×Ent),(∀ x∈r,x.1=i->Ent.eqB f x.2=true)->lkE (Ef me r) i=none
 |[],_=>rfl
 |(j,e)::r,h=>by
  have b:=zhd g r (fun x l=>h x (aH _ l));have m:j=i->Ent.eqB f e=true:=h (j,e) (mem_cons_self ..);unfold Ef;rw [Xt];have other:j≠i->lkE ((j,e)::Ef me r) i=none:=fun d=>by
   simp only [lkE];cases n:aD j i with
   |true=>exact absurd (aC n) d
   |false=>exact b
  by_cases a:j=i
  ·subst a;rw [g];simp only [m rfl];exact b
  ·split
   ·split
    ·exact b
    ·exact other a
   ·exact other a
theorem zhc {me:List (Nat×Ent)}:∀ me':List (Nat×Ent),(∀ x∈me',∀ y∈me',x.1=y.1->x.2=y.2)->∀ i,lkE (Ef me me') i=lkE me' i\/(lkE (Ef me me') i=none/\lkE me' i=lkE me i/\lkE me i≠none)
 |[],_,i=>aK rfl
 |(j,e)::r,h,i=>by
  have g:=zhc (me:=me) r (fun x f y n=>h x (aH _ f) y (aH _ n)) i;unfold Ef;rw [Xt];have keep:lkE ((j,e)::Ef me r) i=lkE ((j,e)::r) i\/(lkE ((j,e)::Ef me r) i=none/\lkE ((j,e)::r) i=lkE me i/\lkE me i≠none):=by
   simp only [lkE];cases m:aD j i with
   |true=>exact aK rfl
   |false=>exact g
  split
  ·rename_i q b;split
   ·rename_i l;by_cases a:j=i
    ·subst a;refine aG ⟨zhd b r (fun x f d=>?_),?_⟩
     ·have:=h (j,e) (mem_cons_self ..) x (aH _ f) d.symm;rw [<-this];exact l
     ·simp only [lkE,Nat.beq_refl];rw [b,Ent.eqB_ok _ _ l];exact ⟨rfl,by simp⟩
    ·have p:lkE ((j,e)::r) i=lkE r i:=by
      simp only [lkE];cases m:aD j i with
      |true=>exact absurd (aC m) a
      |false=>rfl
     rw [p];exact g
   ·exact keep
  ·exact keep
open Go.RowKit
structure CxC (X:XE) (nt:Nat) (rd:Option Nat) (cx:Cx):Prop where
 e:cx.E={ X.E with rg:=rd.isNone }
 n:cx.nt=nt
 r:RdOk cx rd
variable {nt:Nat}{rd:Option Nat}{cx:Cx}
theorem CxC.o {X:XE}(h:CxC X nt rd cx):CxO X.E nt cx:=⟨⟨_,h.e⟩,h.n⟩
def Hs (X:XE)(rec:RecX):Prop:=∀ nt rd c σ k e σ' k',rec nt rd c σ k=.ok e σ' k'->∀ cx,CxC X nt rd cx->WP cx c (fun a τ=>a=e/\τ=σ') σ
variable {c:Code}{σ σ':AS}
theorem WP.extQ {f:Exit}{b:AS}(h:WP cx c (fun e τ=>e=f/\τ=b) σ)(d:Ext σ' b):WP cx c (fun e τ=>e=f/\τ=σ') σ :=
 fun a w g=>wpIn_mono (h a w g) (fun e a w ⟨τ,⟨h1,l⟩,j⟩=>⟨σ',⟨h1,rfl⟩,by subst l;exact St.congr j d.1 d.2⟩)
theorem WP.extP {Q:Exit->AS->Prop}(h:WP cx c Q σ')(b:Ext σ' σ):WP cx c Q σ:=fun a w d=>h a w (St.congr d b.1 b.2)
structure NRok (X:XE) (C:CalX) (avs:List AV) (ids:List Nat) (find:Nat->Option Ent) (res:AV) (me me':List (Nat×Ent)):Prop where
 pick:C9 find ids=some me
 inm:me.all (fun x=>x.2.inM ids)=true
 ina:AV.inML ids avs=true
 new:∀ i,lkE me' i≠none->i∈ids\/find i=none
 one:∀ x∈me',∀ y∈me',x.1=y.1->x.2=y.2
 con:ConX X.E C avs me res me'
variable {res:AV}{k k':Nat}
theorem zh1 {d:List (Nat×Ent)}{τ:AS}{b:AV}(h:Y7 find me ids τ res k=.ok b d me' k') :
  b=res/\d=me/\∃ a,C9 τ.find a=some me'/\me'.all (fun x=>x.2.inM a)=true/\res.inM a=true/\me.all (fun x=>memB x.1 a)=true/\∀ i,lkE me' i≠none->i∈ids\/find i=none:=by
 unfold Y7 at h;simp only at h;generalize Uz τ.fi V8 (ids++nmsR res []) []=a at h;split at h
 ·rename_i j g;split at h
  ·rename_i f;cases h;simp only [aA] at f;rw [zdb,aO] at g;exact ⟨rfl,rfl,a,g,by rw [<-zdq];exact f.1,by rw [<-zkb];exact f.2.1,by rw [<-zsm];exact f.2.2.1,zvr f.2.2.2⟩
  ·cases h
 ·cases h
theorem zlq (a:C9 find ids=some me):∀ x∈me,∀ y∈me,x.1=y.1->x.2=y.2:=fun x d y b e=>by
 have h1:=(Mc a).2 x d;have f:=(Mc a).2 y b;rw [e,f] at h1;injection h1 with h1
 exact h1.symm
theorem zrz (b:C9 find ids=some me){i:Nat}{e:Ent}(hi:i∈ids)(d:find i=some e):lkE me i=some e:=by
 cases a:lkE me i with
 |none =>
  have:i ∉ me.map (·.1):=fun hm=>by rw [<-Hk] at hm;exact hm a
  rw [Wt b] at this;exact absurd hi this
 |some f =>
  have:=(zdm b a).1;rw [d] at this;exact this.symm
variable {avs:List AV}
theorem zhe {X:XE}{C:CalX}(N:NRok X C avs ids find res me me')(i:Nat):lkE (Ef me me') i=lkE me' i\/(lkE (Ef me me') i=none/\lkE me' i=find i) :=
 (zhc me' N.one i).imp (fun h=>h) (fun ⟨h1,d,b⟩=>⟨h1,by
   rw [d];cases a:lkE me i with
   |some e=>exact ((zdm N.pick a).1).symm
   |none=>exact absurd a b⟩)
section
variable {X:XE} {rec:RecX}
theorem z9u (m:EnvO X.E)(z:Hs X rec){f:FuncId}(h:Mo X rec f avs ids find k=.ok res me me' k') :
  Bh X.E f/\NRok X (Hu X.E.P f) avs ids find res me me':=by
 unfold Mo at h;split at h
 ·rename_i fn g;obtain ⟨B,C⟩:=X.ok.get g;split at h
  ·rename_i c w D q;rw [zdb] at q;split at h
   ·rename_i a;simp only [aA] at a;rw [zdq,zdr] at a;rw [Y9] at h;split at h
    ·rename_i e τ I d;split at h
     ·rename_i H j b;rw [Gr] at h;obtain ⟨rfl,rfl,p,n,v,u,t,s⟩:=zh1 h;refine ⟨C,q,a.1,a.2.1,s,zlq n,?_⟩;have l:e=.normal\/e=.ret:=by cases e<;>simp at j ⊢
      exact ConX.walk (E:={ X.E with rg:=true }) (fn:=fn) c B D a.2.2 rfl m.dr m.yl m.np (fun cx F A hrd=>aN (z _ _ _ _ _ _ _ _ d cx ⟨F,A,hrd⟩) (fun J r ⟨h1,G⟩=>⟨by rw [h1];exact l,G⟩)) b rfl n v t u
     ·cases h
    ·cases h
   ·cases h
  ·cases h
 ·cases h
theorem zou (q:EnvO X.E)(u:Hs X rec){id:Nat}{fn:FuncId}{ps:Array Tmp}{a b:Code}{lc:List AV}(P:find id=some (.lp fn ps a b nt false lc))
  (h:zov rec id ps a b nt lc avs ids find k=.ok res me me' k'):id∈ids/\NRok X (zwx X.E.P id) avs ids find res me me':=by
 unfold zov at h;split at h
 ·rename_i M n;rw [zdb] at n;split at h
  ·rename_i g;simp only [aA] at g;rw [zdq,zdr,Fu] at g;obtain ⟨D,C,B,A,z,w⟩:=g;have j:=(Ct _ _).1 B;rw [Y9] at h;split at h
   ·rename_i v S f;split at h
    ·rename_i V G a1 Y L O m;rw [aE] at m;rw [Ql] at h;split at h
     ·rename_i τ R d;split at h
      ·rename_i U F Z W K N l;rw [aE] at l;rw [Ql] at h;obtain ⟨rfl,rfl,t,s,J,Q,I,H⟩:=zh1 h;refine ⟨j,n,D,C,H,zlq s,?_⟩;exact ConX.round (E:={ X.E with rg:=false }) rfl q.yl q.dr q.np A (nbeq z) w (zrz n j P) (fun cx r p hrd=>u _ _ _ _ _ _ _ _ f cx ⟨r,p,hrd⟩) m (Qm _ _ _ _) (fun cx r p hrd=>u _ _ _ _ _ _ _ _ d cx ⟨r,p,hrd⟩) l (Qm _ _ _ _) s J I
      ·cases h
     ·cases h
    ·cases h
   ·cases h
  ·cases h
 ·cases h
theorem ztb (m:EnvO X.E)(u:Hs X rec){o:Oper}{av:AV}{wr:List (Nat×Ent)}(r:dokN X.E nt o.dst=true)(h:zwo X rec o σ k=.ok av ids wr k'):Cj X.E nt o σ av ids wr:=by
 unfold zwo at h;split at h
 ·rename_i c A;split at h
  ·rename_i x l;have n:o.op=.call { callee:=.value x,args:=c.args,argTypes:=c.argTypes }:=by
    rw [A];cases c;simp only at l;rw [l]
   split at h
   ·rename_i f cap d q;simp only [aA] at d;rw [aJ] at q;rw [Db,ztf] at h;unfold NR.op at h;split at h
    ·cases h
    ·rename_i res me me' z g;cases h;rw [aO] at g;obtain ⟨p,N⟩:=z9u m u g;intro cx j;have R:=zll n (j.dok r) d.1 d.2 q j.P (fun args w=>by rw [j.P];exact p args w) (j.dr m) j.ld N.pick N.inm N.ina N.new N.con;rw [<-Wt N.pick] at R;exact R.diff (zhe N)
   ·rename_i id d q;simp only [aA] at d;rw [aJ] at q;split at h
    ·rename_i fn ps a b v lc t;rw [aE] at t;rw [Db] at h;unfold NR.op at h;split at h
     ·cases h
     ·rename_i res me me' z g;cases h;rw [AS.ev_eq',aO] at g;obtain ⟨s,N⟩:=zou m u t g;intro cx j;have R:=zoy n (j.dok r) d.1 d.2 q t j.P (j.dr m) j.ld s N.pick N.inm N.ina N.new N.con;rw [<-Wt N.pick] at R;exact R.diff (zhe N)
    ·cases h
   ·cases h
  ·exact zth m r h
 ·exact zth m r h
end
open Go.RowKit
section
variable {X:XE} {rec:RecX}
variable {os:Array Oper}{e:Exit}
theorem zk1 (D:EnvO X.E)(B:Hs X rec){d:Bool}:∀ (l:List Oper) (i:Nat) (trs:List Tr) (σ:AS) (k:Nat),os.toList.drop i=l->opsX X rec nt d os l trs σ k=.ok e σ' k' ->
  ∀ cx,CxO X.E nt cx->Exec cx os i σ trs (fun u τ=>(d=true->Hm os=true/\Hr os u=true)/\e=.normal/\τ=σ')
 |[],i,trs,σ,k,w,h,cx,s=>by
  unfold opsX at h;refine Exec.done (by have:=congrArg length w;simp at this;omega) ?_;cases d with
  |true =>
   change (match Hm os && cfR os trs.reverse with|true=>CR.ok .normal σ k|false=>.no)=_ at h;split at h
   ·rename_i C;cases h;simp only [aA] at C;exact ⟨fun _=>⟨C.1,zym C.2⟩,rfl,rfl⟩
   ·cases h
  |false =>
   change CR.ok .normal σ k=_ at h;cases h;exact ⟨(fun h=>by cases h),rfl,rfl⟩
 |o::l,i,trs,σ,k,w,h,cx,s=>by
  have hi:i<os.size:=by
   have:=congrArg length w;simp at this;omega
  have v:os[i]? = some o:=by
   have F:(os.toList.drop i)[0]? = some o:=by rw [w];rfl
   rw [getElem?_drop,Nat.add_zero] at F;simpa using F
  have j:os.toList.drop (i+1)=l:=by
   rw [<-drop_drop,w];rfl
  have p:Bb os i=o.dst:=by simp [Bb,v]
  unfold opsX at h;split at h
  ·rename_i A a;split at h
   ·cases h
   ·rename_i av ids wr G r;rw [Fn,Ql] at h;have f:=ztb D B A r cx s;have n:=zk1 D B l (i+1) (⟨av,ids,wr⟩::trs) _ _ j h cx s;have n:=Exec.ext (Qm σ o.dst av wr) n;cases b:o.guard with
    |none=>exact Exec.op v b f n
    |some gw =>
     obtain ⟨g,want⟩:=gw;rw [b] at a;unfold zq9 at a;simp only at a;split at a
     ·rename_i t z;rw [aQ] at a;split at a
      ·rename_i c m;injection a with a
       have q:c=want:=by simpa using a
       exact Exec.cons hi (A9.step_guard v b z m q f) (by rw [p];exact n)
      ·cases a
      ·cases a
     ·cases a
  ·rename_i A a;rw [Ql] at h;have n:=zk1 D B l (i+1) (⟨.tup [],[],[]⟩::trs) _ _ j h cx s;have n:=Exec.ext (Qm σ o.dst (.tup []) []) n;cases b:o.guard with
   |none=>rw [b] at a;cases a
   |some gw =>
    obtain ⟨g,want⟩:=gw;rw [b] at a;unfold zq9 at a;simp only at a;split at a
    ·rename_i t z;rw [aQ] at a;split at a
     ·rename_i c m;injection a with a
      have q:c≠want:=by simpa using a
      exact Exec.cons hi (Wg v (s.dok A) b z (aK ⟨c,m,q⟩)) (by rw [p];exact n)
     ·rename_i m;exact Exec.cons hi (Wg v (s.dok A) b z (aG m)) (by rw [p];exact n)
     ·cases a
    ·cases a
  ·cases h
theorem zbk (m:EnvO X.E)(j:Hs X rec){id:Nat}{d:Bool}(h:opsX X rec nt d os os.toList [] σ k=.ok e σ' k'):∀ cx,CxO X.E nt cx->WP cx (.region id os d) (fun n τ=>n=e/\τ=σ') σ:=by
 intro cx l;obtain ⟨a,τ,b,h1,g,f⟩:=zk1 m j os.toList 0 [] σ k rfl h cx l;cases d with
 |false=>exact WP.region ⟨a,τ,b,g.symm,f⟩
 |true=>exact WP.region_draw (h1 rfl).1 ⟨a,τ,b,(h1 rfl).2,g.symm,f⟩
theorem Xv:∀ (l:List Nat) (σ:AS),Le cx σ (frzB l σ)
 |[],σ=>Le.refl _ _
 |i::r,σ=>by
  unfold frzB;rw [aE];split
  ·rename_i ty cs a;split
   ·rename_i b;exact (Le.frb i a b).trans (Xv r _)
   ·exact Xv r σ
  ·exact Xv r σ
theorem zw5 (σ:AS)(k:AS->α):frzK σ k=k ⟨(frzB (σ.me.map (·.1)) σ).tm,Jt (frzB (σ.me.map (·.1)) σ).me []⟩:=by
 unfold frzK;split;rename_i tm me a;rw [Y9,X2,a]
theorem zow (A:EnvO X.E)(R:Hs X rec){g:Operand}{ps:Array Tmp}{a b:Code}(h:zox X rec nt rd g ps a b σ k=.ok e σ' k'):∀ cx,CxC X nt rd cx->WP cx (.rangeFunc g ps a b) (fun S τ=>S=e/\τ=σ') σ:=by
 unfold zox at h;split at h
 ·rename_i gf cap s B F;rw [aJ] at B;rw [aE] at F;split at h
  ·rename_i hrd;rw [Db,Ql] at h;split at h
   ·rename_i res me me' V v;split at h
    ·rename_i W I a2 Z K M n hm;rw [Fn,Ql] at h;cases h;rw [Xt] at n;rw [Fu] at hm;rw [aO] at v;obtain ⟨u,N⟩:=z9u A R v;intro cx d;have C:=d.n;subst C;have p:=Qm σ none .any [(k,.lp 0 ps a b cx.nt false ((aR cx.nt).map σ.getR))];have H:=Wo N.pick (fun i _=>(p.2 i).symm);have f:=(Ct _ _).1 hm;rw [Wt N.pick] at f;have j:=N.ina;simp only [AV.inML,aA] at j;have j:=j.2;have m:=fun i (hi:lkE me' i≠none)=>(N.new i hi).imp (fun h=>h) (fun D=>show σ.find i=none from by
      have z:(putS σ none .any [(k,.lp 0 ps a b cx.nt false ((aR cx.nt).map σ.getR))]).find i=none:=D;rw [p.2 i,aM] at z;cases G:lkE [(k,Ent.lp 0 ps a b cx.nt false ((aR cx.nt).map σ.getR))] i with
      |some e=>rw [G] at z;cases z
      |none=>rw [G] at z;exact z)
     have q:∀ t (Q:t<((aR cx.nt).map σ.getR).length),((aR cx.nt).map σ.getR)[t]=.any\/((aR cx.nt).map σ.getR)[t]=σ.get t:=fun t Q=>aG (by simp [aQ])
     have l:Bh cx.E gf:=fun args w=>by rw [d.o.P];exact u args w
     have ext:=Qm σ none .any ((k,.dead)::me');cases rd with
     |none=>exact WP.extQ (WP.rangeO d.r (by rw [d.e];rfl) (by rw [d.e];exact A.yl) d.o.P (d.o.dr A) d.o.ld l s B F q H N.inm f j m n N.con) ext
     |some P =>
      simp only at hrd;split at hrd
      ·rename_i Y J a0 b0 L U O r;rw [aE] at r;exact WP.extQ (WP.rangeI d.r r d.o.P (d.o.dr A) d.o.ld l s B F q H N.inm f j m n N.con) ext
      ·cases hrd
    ·cases h
   ·cases h
  ·cases h
 ·cases h
theorem zt9 (u:EnvO X.E)(a:Hs X rec)(r:∀ x,c≠.loop x)(h:Yn X rec nt rd c σ k=.ok e σ' k'):∀ cx,CxC X nt rd cx->WP cx c (fun l τ=>l=e/\τ=σ') σ:=by
 intro cx b;unfold Yn at h;split at h
 ·cases h;exact WP.skip ⟨rfl,rfl⟩
 ·cases h;exact WP.ret ⟨rfl,rfl⟩
 ·cases h;exact WP.exit ⟨rfl,rfl⟩
 ·rename_i x y;split at h
  ·rename_i n v q;exact WP.seq (aN (a _ _ _ _ _ _ _ _ q cx b) (fun l τ ⟨h1,j⟩=>by subst h1 j;exact a _ _ _ _ _ _ _ _ h cx b))
  ·rename_i g;refine WP.seq (aN (a _ _ _ _ _ _ _ _ h cx b) (fun l τ ⟨h1,j⟩=>?_));subst h1 j;cases l with
   |normal=>exact absurd h (g _ _)
   |_=>exact ⟨rfl,rfl⟩
 ·rename_i id x;split at h
  ·rename_i p n v q;refine WP.block (aN (a _ _ _ _ _ _ _ _ q cx b) (fun l τ ⟨h1,j⟩=>?_));subst h1 j;simp only [Jb];split at h
   ·rename_i s;cases h;rw [if_pos (aC s)];exact ⟨rfl,rfl⟩
   ·rename_i s;cases h;rw [if_neg (aL s)];exact ⟨rfl,rfl⟩
  ·rename_i g;refine WP.block (aN (a _ _ _ _ _ _ _ _ h cx b) (fun l τ ⟨h1,j⟩=>?_));subst h1 j;cases l with
   |exit p=>exact absurd h (g _ _ _)
   |_=>exact ⟨rfl,rfl⟩
 ·rename_i cnd x y;split at h
  ·rename_i f m;rw [aJ] at m;exact WP.cond f m (fun _=>a _ _ _ _ _ _ _ _ h cx b) (fun h=>by cases h)
  ·rename_i f m;rw [aJ] at m;exact WP.cond f m (fun h=>by cases h) (fun _=>a _ _ _ _ _ _ _ _ h cx b)
  ·cases h
 ·rename_i id os d;split at h
  ·rw [zw5] at h;refine WP.weaken (Xv (σ.me.map (·.1)) σ) (WP.extP (zbk u a h cx b.o) ⟨fun t=>rfl,fun i=>?_⟩);show lkE (Jt _ []) i=lkE _ i;rw [zh0];cases lkE (frzB (σ.me.map (·.1)) σ).me i<;>rfl
  ·exact zbk u a h cx b.o
 ·rename_i x;exact absurd rfl (r x)
 ·exact zow u a h cx b
 ·cases h
theorem zsv (n:Nat):evX X (n+1)=fun nt rd c σ k=>Yn X (evX X n) nt rd c σ k:=rfl
theorem zsu:evX X 0 nt rd c σ k=.no:=rfl
theorem zsg (u:EnvO X.E)(n:Nat)(q:∀ m,m<n->Hs X (evX X m)){x:Code}(h:evX X n nt rd (.loop x) σ k=.ok e σ' k'):∀ cx,CxC X nt rd cx->WP cx (.loop x) (fun d τ=>d=e/\τ=σ') σ:=by
 intro cx s;refine WP.loop (fun m τ=>m<=n/\∃ j,evX X m nt rd (.loop x) τ j=.ok e σ' k') n ⟨Nat.le_refl _,k,h⟩ (fun m τ ⟨hm,j,a⟩=>?_);cases m with
 |zero=>rw [zsu] at a;cases a
 |succ m =>
  rw [zsv] at a;have a:(match evX X m nt rd x τ j with
   |.ok .normal b g=>evX X m nt rd (.loop x) b g
   |r=>r)=.ok e σ' k':=a
  split at a
  ·rename_i b g t;exact aN (q m (by omega) _ _ _ _ _ _ _ _ t cx s) (fun d f ⟨h1,p⟩=>by subst h1 p;exact ⟨m,by omega,by omega,g,a⟩)
  ·rename_i l;refine aN (q m (by omega) _ _ _ _ _ _ _ _ a cx s) (fun d f ⟨h1,p⟩=>?_);subst h1 p;cases d with
   |normal=>exact absurd a (l _ _)
   |_=>exact ⟨rfl,rfl⟩
theorem zyg (f:EnvO X.E)(n:Nat):Hs X (evX X n):=by
 induction n using Nat.strongRecOn with
 |_ n a =>
  intro nt rd c σ k e σ' k' h cx d;by_cases b:∃ x,c=.loop x
  ·obtain ⟨x,rfl⟩:=b;exact zsg f n a h cx d
  ·cases n with
   |zero=>cases h
   |succ n=>exact zt9 f (a n (by omega)) (fun x g=>b ⟨x,g⟩) h cx d
theorem zor (a:EnvO X.E){n:Nat}{f:FuncId}(h:Mo X (evX X n) f avs ids find k=.ok res me me' k'):Bh X.E f/\ConX X.E (Hu X.E.P f) avs me res me' :=
 let ⟨h1,b⟩:=z9u a (zyg a n) h
 ⟨h1,b.con⟩
end
end Go.Proofs.YtkoamfnbbhfaiaaGreatDoor
