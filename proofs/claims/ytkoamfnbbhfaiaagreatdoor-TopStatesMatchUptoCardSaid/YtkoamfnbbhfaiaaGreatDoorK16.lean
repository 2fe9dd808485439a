/- Short forms of contracts, joins and loops. -/
import Derived.Test.YtkoamfnbbhfaiaaGreatDoorK15
set_option linter.unusedVariables false
set_option linter.unusedSimpArgs false
namespace Go.Proofs.YtkoamfnbbhfaiaaGreatDoor
open Go.RowKit List
open Or renaming inl->aA,inr->aB
section
variable {α β V:Type}
inductive Us (l:List Nat):Prop|mk
variable {E:Env}{nt:Nat}{R:Exit->AS->Prop}{K:List Bi}{σ:AS}
theorem AW.stepW {ids:List Nat}(u:Us ids){e:Exit}(h:Ei E nt R (fAS σ fun a=>go E nt ids 1000000 K e a)):AW E nt R K e σ:=AW.stepU ids h
class JI (two:Bool) (F:V->Option β) (S:outParam (V->AS)) (B:outParam (V->Option β)):Type where
 eq:∀ v,F v=B v
variable {F B:V->Option β}{os:Array Oper}{r:β}
theorem AW.jI {S:V->AS}{i:Nat}{d:Bool}{C:Code}{x:Option β}(h:jon F x=some r)[j:JI false F S B]
  (e:∀ v,B v=some r->AW E nt R (.code C::K) .normal (S v)) (h1:x=some r->AW E nt (Cy (fun a=>∃ v,F v=some r/\LeX E nt a (S v)) (AW E nt R (.code C::K))) [.code (.region i os d)] .normal σ):AW E nt R (.code (.region i os d)::.code C::K) .normal σ:=AW.joinO1 h h1 fun v b=>e v ((j.eq v).symm.trans b)
theorem AW.jI2 {S:V->AS}{i:Nat}{d:Bool}{D C:Code}{x:Option β}(h:jon F x=some r)[j:JI true F S B]
  (e:∀ v,B v=some r->AW E nt R (.code C::K) .normal (S v)) (h1:x=some r->AW E nt (Cy (fun a=>∃ v,F v=some r/\LeX E nt a (S v)) (AW E nt R (.code C::K))) [.code (.region i os d),.code D] .normal σ):AW E nt R (.code (.region i os d)::.code D::.code C::K) .normal σ:=AW.joinO2 h h1 fun v b=>e v ((j.eq v).symm.trans b)
abbrev jf (F:V->Option β)(S:V->AS){B:V->Option β}(h:∀ v,F v=B v):JI false F S B:=⟨h⟩
abbrev jt (F:V->Option β)(S:V->AS){B:V->Option β}(h:∀ v,F v=B v):JI true F S B:=⟨h⟩
class LI (L:Nat->V->Option β) (S:outParam (V->AS)) (B:outParam (Nat->V->Option β)):Type where
 z:∀ v,L 0 v=none
 s:∀ m v,L (m+1) v=B m v
abbrev li (L:Nat->V->Option β)(S:V->AS){B:Nat->V->Option β}(s:∀ m v,L (m+1) v=B m v)(z:∀ v,L 0 v=none:=by exact fun _=>rfl)(z:∀ v,L 0 v=none:=by exact fun _=>rfl):LI L S B:=⟨z,s⟩
variable {c:Code}
theorem B5.I {L:Nat->V->Option β}{S:V->AS}{B:Nat->V->Option β}{n:Nat}{b:V}(h:L n b=some r)[j:LI L S B](e:LeX E nt σ (S b))
  (round:∀ m v,B m v=some r->AW E nt (Cy (fun a=>∃ v',L m v'=some r/\LeX E nt a (S v')) (AW E nt R K)) [.code c] .normal (S v)):B5 E nt (fun next a=>AW E nt (Cy next (AW E nt R K)) [.code c] .normal a) σ :=
 LoopA.o h j.z e fun m v d=>round m v ((j.s m v).symm.trans d)
class CI (E:Env) (o:Option α) (fr:outParam Bool) (f:outParam FuncId) (avs:outParam (List AV)) (res:outParam (α->AV)):Prop where
 h:∀ {a},o=some a->Con E fr f avs (res a)
variable {f f':FuncId}{avs avs':List AV}{o:Option α}{k:α->Option β}{fr:Bool}{enc:α->AV}{find:Nat->Option Ent}{KR:AV->List Nat->List (Nat×Ent)->Prop}
theorem Ag.I {K:AV->Prop}{R:Nat->Nat->List AV->AV->Prop}(h:bnd o k=some r)[i:CI E o fr f' avs' enc](e:∀ a,k a=some r->K (enc a))(d:f'=f:=by rfl)(b:avs'=avs:=by rfl)(d:f'=f:=by rfl)(b:avs'=avs:=by rfl)(d:f'=f:=by rfl)(b:avs'=avs:=by rfl):Ag E f avs K R find KR:=by
 subst d b;exact Ag.o h enc (fun _=>i.h) e
theorem Be.I {K:AV->Prop}{raw:List AV}{dst:Option Nat}(h:bnd o k=some r)[i:CI E o fr f' avs' enc](b:∀ a,k a=some r->K (enc a))(g:f'=f:=by rfl)(e:avs'=avs:=by rfl)(d:∀ a,fr=true\/(enc a).flat=true:=by exact fun _=>Or.inl rfl):Be E f avs K raw find dst KR:=by
 subst g e;exact Be.o h enc (fun _=>i.h) d b
theorem Ag.S {K:AV->Prop}{R:Nat->Nat->List AV->AV->Prop}(h:bnd o k=some r)[i:CI E o fr f' avs' enc](b:∀ a,k a=some r->K (enc a))(g:f'=f:=by rfl)(e:SubL avs avs':=by repeat' first|exact Sub.nil _|exact Sub.refl _|refine Sub.agg ?_|refine Sub.tup ?_|refine Sub.fn ?_|exact SubL.nil|refine SubL.cons ?_ ?_|refine Sub.sl _ ?_|exact SubE.nil|refine SubE.cons ?_ ?_):Ag E f avs K R find KR:=by
 subst g;exact Ag.o h enc (fun _ d=>Con.sub e (i.h d)) b
theorem LeX.pa {τ:AS}{v:AV}(t:Nat)(b:LeX E nt (σ.putS t v) τ)(a:Sub (σ.get t) v:=by repeat' first|exact Sub.nil _|exact Sub.refl _|refine Sub.agg ?_|refine Sub.tup ?_|refine Sub.fn ?_|exact SubL.nil|refine SubL.cons ?_ ?_|refine Sub.sl _ ?_|exact SubE.nil|refine SubE.cons ?_ ?_):LeX E nt σ τ:=LeX.trans (LeX.put t v a) b
theorem AndA {p q k:Prop}(d:k)(b:p:=by kernel_rfl)(a:q:=by kernel_rfl):(p/\q)/\k:=⟨⟨b,a⟩,d⟩
theorem AppX.oA {l m:List α}{ys:List AV}{bytes:Nat}{K:List AV->Prop}{k:List α->Option β}(h:app l m bytes k=some r)(d:∀ a,k a=some r->K (a.map enc))(b:SubR ys (m.map enc):=by first|exact SubR.refl _|(repeat' first|exact SubR.nil|refine SubR.cons ?_ ?_|exact SubL.nil|refine SubL.cons ?_ ?_|exact Sub.refl _|exact Sub.nil _)):AppX ((l.map enc).length+ys.length) bytes (l.map enc++ys) K:=AppX.o enc h b d
theorem AppX.oA0 {m:List α}{ys:List AV}{bytes:Nat}{K:List AV->Prop}{k:List α->Option β}(h:app [] m bytes k=some r)(d:∀ a,k a=some r->K (a.map enc))(b:SubR ys (m.map enc):=by first|exact SubR.refl _|(repeat' first|exact SubR.nil|refine SubR.cons ?_ ?_|exact SubL.nil|refine SubL.cons ?_ ?_|exact Sub.refl _|exact Sub.nil _)):AppX ys.length bytes ys K:=AppX.o0 enc h b d
theorem EqX.A {p K:Prop}(k:K)(h:p:=by first|rfl|kernel_rfl):EqX p K:=.mk h k
theorem IdxX.A {l:List α}{n:Int}{K:AV->Prop}(h:idx l n k=some r)(a:∀ x,k x=some r->K (enc x)):IdxX (l.map enc) n K:=IdxX.o enc h a
variable {fn:Func}{args:List AV}
theorem cw {res : AV}(d : E0.P.funcs[f]? = some fn)(h : AW E0 fn.ntmps (EndA E0 fn res) [.code c] .normal (Di args))(e : fn.body = some c := by rfl)(b : Nat.ble args.length fn.ntmps = true := by rfl)(h1 : (fn.name == "runtime.NumGoroutine") = false := by rfl)(g : fn.body.isNone = false := by rfl)(a : fr = false ∨ res.flat = true := by first | exact Or.inr rfl | exact Or.inl rfl)(e : fn.body = some c := by rfl)(b : Nat.ble args.length fn.ntmps = true := by rfl)(h1 : (fn.name == "runtime.NumGoroutine") = false := by rfl)(g : fn.body.isNone = false := by rfl)(a : fr = false ∨ res.flat = true := by first | exact Or.inr rfl | exact Or.inl rfl) : Con E0 fr f args res :=
 Con.walk c d e (B7 d h1 g) b a h
theorem GX.A {x r:α}{me:List (Nat×Ent)}{res:α->AV}{meF:α->List (Nat×Ent)}(h:some x=some r)(τ:α->AS)(h1:LeX E nt σ (τ x):=by exact LeX.a [])(g:(τ x).me=meF x:=by rfl)(e:retA E.tab (τ x) fn.results.toList=some avs:=by rfl)
  (d:Sub (Fd avs) (res x):=by repeat' first|exact Sub.nil _|exact Sub.refl _|refine Sub.agg ?_|refine Sub.tup ?_|refine Sub.fn ?_|exact SubL.nil|refine SubL.cons ?_ ?_|refine Sub.sl _ ?_|exact SubE.nil|refine SubE.cons ?_ ?_) (b:YK E.np args (τ x) (meF x) []:=by trivial) (a:boxB E.np args (τ x) me (meF x) []=true:=by rfl):GX E nt fn args me σ (res r) (meF r):=GX.o h (GX.mk (τ x) h1 g avs e d [] b a)
theorem RetX.oB {v w:AV}{a:β}(h:some a=some r)(b:a=r->Sub v w:=by
  intro d;subst d
  (repeat' first|exact Sub.nil _|exact Sub.refl _|refine Sub.agg ?_|refine Sub.tup ?_|refine Sub.fn ?_|exact SubL.nil|refine SubL.cons ?_ ?_|refine Sub.sl _ ?_|exact SubE.nil|refine SubE.cons ?_ ?_)<;>fail):RetX v w:=.sub (b (Option.some.inj h))
theorem CI.w {res : α → AV}(ids : List Nat)(e : E0.P.funcs[f]? = some fn)(i : fn.body = some c := by rfl)(g : Nat.ble args.length fn.ntmps = true := by rfl)(h1 : (fn.name == "runtime.NumGoroutine") = false := by rfl)(n : fn.body.isNone = false := by rfl)
  (d:∀ r,fr=false\/(res r).flat=true:=by first|exact fun _=>Or.inr rfl|exact fun _=>Or.inl rfl)
  (h:∀ (_:Us ids) r,o=some r->AW E0 fn.ntmps (EndA E0 fn (res r)) [.code c] .normal (Di args):=by
    intro u r b;repeat' first
     |refine AW.jI b (fun v b=>?_) fun b=>?_
     |refine AW.jI2 b (fun v b=>?_) fun b=>?_
     |refine AW.regO b fun b=>?_
     |refine AW.stepW u ?_;conv=>whnf
     |refine Ac.o b (fun b=>?_) fun b=>?_
     |refine Ac.t ?_
     |refine Ac.f ?_
     |exact ⟨_,b,LeX.a []⟩
     |refine B5.I b (LeX.a []) fun m v b=>?_
     |refine IdxX.A b fun x b=>?_
     |refine Ag.I b fun a b=>?_
     |exact RetX.oB b
     |refine And.intro ⟨by kernel_rfl,by kernel_rfl⟩ ?_
     |refine EqX.A ?_
     |refine AppX.oA b fun l b=>?_
     |refine AppX.oA0 b fun l b=>?_):CI E0 o fr f args res :=
 ⟨fun j=>Con.walk c e i (B7 e h1 n) g (d _) (h .mk _ j)⟩
instance CI_E0p {np:Nat}{o:Option α}{fr:Bool}{f:FuncId}{avs:List AV}{res:α->AV}[i:CI E0 o fr f avs res]:CI (E0p np) o fr f avs res:=⟨fun h=>Con.env rfl rfl (i.h h)⟩
instance CI_E0b {o:Option α}{fr:Bool}{f:FuncId}{avs:List AV}{res:α->AV}[i:CI E0 o fr f avs res]:CI E0b o fr f avs res:=⟨fun h=>Con.env rfl rfl (i.h h)⟩
instance CI_E0y {l np:Nat}{R:Obj}{o:Option α}{fr:Bool}{f:FuncId}{avs:List AV}{res:α->AV}[i:CI E0 o fr f avs res]:CI (E0y l R np) o fr f avs res:=⟨fun h=>Con.env rfl rfl (i.h h)⟩
end
instance CI_Ec {α:Type}{o:Option α}{fr:Bool}{f:FuncId}{avs:List AV}{res:α->AV}[i:CI E0 o fr f avs res]:CI Ec o fr f avs res:=⟨fun h=>Con.env rfl rfl (i.h h)⟩
def ConL (E:Env)(fr:Bool)(f:FuncId)(args:List AV)(res:AV):Prop:=Bh E f/\∀ (S:Nat->Prop) (w:World) (vs:Array Value),Laid S w->Args w S args vs->Calls E.P f vs w fun e w'=>∃ v,e=.returned v/\BelE E w w'/\Rep w' (fun b=>(fr=false/\S b)\/w.heap.size<=b) G0 res v
theorem ConL.of {E:Env}{fr:Bool}{f:FuncId}{fn:Func}{c:Code}{args:List AV}{res:AV}(H:E.P.funcs[f]? = some fn)(j:fn.body=some c)(I:Bh E f)(D:args.length<=fn.ntmps)(l:fr=false\/res.flat=true)
  (h:∀ S w,WP (Cx.call E S w fn.ntmps) c (EndA E fn res) (Di args)) (q:E.rg=false) (p:E.yl=none) (t:E.np=0):ConL E fr f args res:=by
 refine ⟨I,fun S w vs L J=>callsIn_wide.1 (callsIn_of_wp (F:=Fence.wide) (n:=0) H j trivial ?_)⟩;have d:St (Cx.call E S w fn.ntmps) (Di args) { tmps:=vs++Array.replicate (fn.ntmps-vs.size) undef,defers:=[] } w:=by
  obtain ⟨γ,i⟩:=Qj (E:={ E with ld:=false }) p t rfl J D;exact ⟨γ,i.tm,i.me,i.inj,i.ge,i.below,i.size,⟨i.defers.d0,i.defers.marks,i.defers.pin,i.defers.yl,i.defers.sz,i.defers.evo,fun _ g vs G=>by
   obtain ⟨z,u,y⟩:=L g vs G;exact ⟨⟨z,u⟩,u,y⟩,i.defers.mks,i.defers.wsz⟩,i.gh,i.fr,i.dr⟩
 refine wpIn_mono (h S w _ _ d) (fun e a w' ⟨σ,s,γ,d⟩=>?_);have key:(∃ avs,retA E.tab σ fn.results.toList=some avs/\Sub (Mp σ (Fd avs)) res)->bodyPost E.P fn (fun e w'=>∃ v,e=.returned v/\BelE E w w'/\Rep w' (fun b=>(fr=false/\S b)\/w.heap.size<=b) G0 res v) .ret a w':=by
  rintro ⟨avs,h1,m⟩;obtain ⟨v,A,C⟩:=J4 d h1;refine ⟨d.defers.d0 q,v,A,v,rfl,⟨d.below,d.dr⟩,?_⟩;have x:=(Zl (S':=fun b=>S b\/w.heap.size<=b) d (fun b j=>?_) C).sub m
  ·rcases l with l|l
   ·exact x.mono (Nat.le_refl _) (fun b j _=>⟨rfl,j.elim (fun h=>aA ⟨l,h⟩) aB⟩)
   ·exact x.flat l
  ·rcases j with j|j
   ·rcases j with ⟨j,_⟩|⟨j,_⟩
    ·exact aA j.1
    ·exact aB j.1
   ·exact aB (d.ge b j).1.1
 cases e with
 |normal=>exact key (Qd s)
 |ret=>exact key (Qd s)
 |_=>exact s.elim
theorem cwL {f : FuncId}{fn : Func}{args : List AV}{res : AV}{fr : Bool}{c : Code}(b : Ec.P.funcs[f]? = some fn)(h : AW Ec fn.ntmps (EndA Ec fn res) [.code c] .normal (Di args))(i : fn.body = some c := by rfl)(d : Nat.ble args.length fn.ntmps = true := by rfl)(h1 : (fn.name == "runtime.NumGoroutine") = false := by rfl)(j : fn.body.isNone = false := by rfl)(a : fr = false ∨ res.flat = true := by first | exact Or.inr rfl | exact Or.inl rfl) : ConL Ec fr f args res :=
 ConL.of b i (show Bh E0 f from B7 b h1 j) (Nat.le_of_ble_eq_true d) a (fun S w=>WP.mono (h.out (Cx.call Ec S w fn.ntmps) rfl rfl rfl) fun e σ g=>by cases e<;>exact g) rfl rfl rfl
theorem AW.rule {E:Env}{nt:Nat}{R:Exit->AS->Prop}{d:Bool}{os:Array Oper}{o:Oper}{l:List Oper}{trs:List Tr}{K:List Bi}{σ:AS}{av:AV}{ids:List Nat}{wr:List (Nat×Ent)}(p:Yo E nt o σ av ids wr)(u:o.guard=none)
  (h:AW E nt R (.ops d os l [] (⟨av,ids,wr⟩::trs)::K) .normal (σ.upd o.dst av wr)):AW E nt R (.ops d os (o::l) [] trs::K) .normal σ:=by
 refine ⟨fun cx j e n s i g=>?_⟩;have q:os[i]? = some o:=by
  have m:(os.toList.drop i)[0]? = some o:=by rw [g];rfl
  rw [getElem?_drop,Nat.add_zero] at m;simpa using m
 have a:os.toList.drop (i+1)=l:=by
  rw [<-drop_drop,g];rfl
 exact Exec.op q u (p cx j e) (h.out cx j e n (fun t b h=>by simp [lkB] at h) (i+1) a)
theorem zer {nt:Nat}{o:Oper}{σ:AS}{tys:Array TypeId}(b:o.op=.call { callee:=.value (.func 4),args:=#[],argTypes:=tys })(e:dokN Ec nt o.dst=true):Yo Ec nt o σ (.bool true) [] []:=fun cx a d =>
 zll (E:=Ec) (ids:=[]) (me:=[]) (me':=[]) (cap:=[]) b (Aj e a d) rfl rfl rfl (by rw [a]) (by rw [a];exact za5.1) (by rw [a];rfl) (by rw [a]) rfl rfl rfl (fun i h=>absurd rfl h) za5.2
end Go.Proofs.YtkoamfnbbhfaiaaGreatDoor
