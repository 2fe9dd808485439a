/- The abstract walk, twelfth part. -/
import Derived.Test.YthbogefcfhmpgaaGreatK06
set_option linter.unusedVariables false
set_option linter.unusedSimpArgs false
namespace Go.Proofs.YthbogefcfhmpgaaGreat
open Go.RowKit List
open Bool renaming and_eq_true->aA,not_eq_true'->aE
open Nat renaming eq_of_beq_eq_true->aB,beq->aC,le_of_ble_eq_true->aD,ble->aJ,ne_of_beq_eq_false->aK,succ_mul->aP,le_refl->aQ
open Gam renaming set_self->aF,set_ne->aG
open Or renaming inl->aH,inr->aO
open AV renaming cells->aL,renL->aM,inML->aN,closedL->aU
open AS renaming find->aT,get_upd->aV
open WP renaming region_draw->aW,mono->aX
inductive A4 (b:Bool) (p q:Prop):Prop
 |mk (h1:b=true->p) (h2:b=false->q)
theorem A4.t {p q:Prop}(k:p):A4 true p q:=⟨fun _=>k,fun h=>absurd h (by simp)⟩
theorem A4.f {p q:Prop}(k:q):A4 false p q:=⟨fun h=>absurd h (by simp),fun _=>k⟩
inductive IdxX (xs:List AV) (n:Int) (K:AV->Prop):Prop
 |mk (m:Nat) (el:AV) (hn:n=(m:Int)) (he:xs[m]? = some el) (k:K el)
inductive NatX (n:Int) (len:Nat) (K:Nat->Prop):Prop
 |mk (m:Nat) (hn:n=(m:Int)) (hm:m<len) (k:K m)
inductive LtX (m len:Nat) (K:Prop):Prop
 |mk (hm:m<len) (k:K)
inductive EltX (xs:List AV) (m:Nat) (K:AV->Prop):Prop
 |mk (el:AV) (he:xs[m]? = some el) (k:K el)
inductive SlcX (len:Nat) (lo hi:Int) (K:Nat->Nat->Prop):Prop
 |mk (l h:Nat) (h1:lo=(l:Int)) (h2:hi=(h:Int)) (h3:l<=h) (h4:h<=len) (k:K l h)
inductive SlsX (xs:List AV) (lo hi:Int) (K:List AV->Prop):Prop
 |mk (l h:Nat) (h1:lo=(l:Int)) (h2:hi=(h:Int)) (h3:l<=h) (h4:h<=xs.length) (zs:List AV) (hz:(xs.take h).drop l=zs) (k:K zs)
inductive SetX (xs:List AV) (m j n:Nat) (av:AV) (ok:AV->Bool) (put:AV->AV) (K:List AV->Prop):Prop
 |mk (el:AV) (he:xs[m]? = some el) (hok:ok el=true) (zs:List AV) (hz:SubR (xs.set m (put el)) zs) (k:K zs)
inductive MakX (n:Int) (bytes:Nat) (z:AV) (K:List AV->Prop):Prop
 |mk (m:Nat) (hn:n=(m:Int)) (h1:m<=1099511627776) (h2:bytes*m<=281474976710656) (zs:List AV) (hz:SubR (replicate m z) zs) (k:K zs)
inductive AppX (n bytes:Nat) (zs:List AV) (K:List AV->Prop):Prop
 |mk (h1:n<=1099511627776) (h2:n*bytes<=140737488355328) (k:K zs)
 |sub (zs':List AV) (hz:SubR zs zs') (h1:n<=1099511627776) (h2:n*bytes<=140737488355328) (k:K zs')
theorem AppX.elim {n bytes:Nat}{zs:List AV}{K:List AV->Prop}(h:AppX n bytes zs K):n<=1099511627776/\n*bytes<=140737488355328/\∃ zs',SubR zs zs'/\K zs':=by
 cases h with
 |mk h1 h2 k=>exact ⟨h1,h2,zs,.refl _,k⟩
 |sub zs' hz h1 h2 k=>exact ⟨h1,h2,zs',hz,k⟩
inductive NzX (b:Int) (K:Prop):Prop
 |mk (h:b≠0) (k:K)
inductive Af (E:Env) (f:FuncId) (avs:List AV) (K:AV->Prop) (R:Nat->Nat->List AV->AV->Prop) (find:Nat->Option Ent) (KR:AV->List Nat->List (Nat×Ent)->Prop):Prop
 |memo (ps ps':List (Nat×Nat)) (cargs:List AV) (me me':List (Nat×Ent)) (res:AV) (dead:List Nat) (he:C6 E f) (hdr0:E.dr=false) (h:ConG E.P E.yl (CalF E.P f 0) cargs [] me res me') (hra:aM (rho ps) cargs=avs) (hia:aN (me.map (·.1)) cargs=true) (hle:LeF find (rho ps) (me.map (·.1)) me) (hn:Ct find (rho ps) (rho ps') me me' res dead) (k:KR (res.ren (rho ps')) (idsG (rho ps) (rho ps') me me') (wrG (rho ps') me' dead))
 |mk (fr:Bool) (res:AV) (h:Con E fr f avs res) (k:K res)
 |row (ty sz:Nat) (xs:List AV) (hdr0:E.dr=false) (h:Fu E f avs ty sz xs) (k:R ty sz xs (.row 0))
 |rowT (ty sz:Nat) (xs:List AV) (res:AV) (hdr0:E.dr=false) (h:ConT E f avs ty sz xs res) (k:R ty sz xs res)
inductive YldX (E:Env) (l:Nat) (T:Array Value) (raw cap:List AV) (find:Nat->Option Ent) (KR:AV->List Nat->List (Nat×Ent)->Prop):Prop
 |mk (ps ps':List (Nat×Nat)) (cargs ccaps:List AV) (me me':List (Nat×Ent)) (res:AV) (dead:List Nat) (hdr0:E.dr=false) (h:ConG E.P E.yl (fun vs cs w R=>cs=T->CalY E.P l vs cs w R) cargs ccaps me res me') (hra:aM (rho ps) cargs=raw) (hrc:aM (rho ps) ccaps=cap) (hia:aN (me.map (·.1)) cargs=true) (hic:aN (me.map (·.1)) ccaps=true) (hle:LeF find (rho ps) (me.map (·.1)) me) (hn:Ct find (rho ps) (rho ps') me me' res dead) (k:KR (res.ren (rho ps')) (idsG (rho ps) (rho ps') me me') (wrG (rho ps') me' dead))
inductive RngX (E:Env) (nt:Nat) (gv:AV) (ps:Array Tmp) (a b:Code) (σ:AS) (K:AS->Prop):Prop
 |mk (gf:Nat) (cap:List AV) (hgv:gv=.fn gf cap) (he:C6 E gf) (hrg:E.rg=true) (hdr0:E.dr=false) (hyl0:E.yl=none) (pp pp':List (Nat×Nat)) (ycaps ccaps:List AV) (me me':List (Nat×Ent)) (dead:List Nat) (hrc:aM (rho pp) ccaps=cap) (hic:aN (me.map (·.1)) ccaps=true) (hy:LeY σ (rho pp) (me.map (·.1)) 0 ycaps) (hle:LeF σ.find (rho pp) (me.map (·.1)) me) (hn:Ct σ.find (rho pp) (rho pp') me me' (.tup []) dead)
  (hiter:∀ (l D:Nat) (fn:FuncId) (T:Array Value),T.size=nt->ConG E.P (some (l,.loop (recR fn T ps a b D))) (CalF E.P gf 0) (.yld l T ycaps::ccaps) [] me (.tup []) me') (k:K (σ.upd none (.tup []) (wrG (rho pp') me' dead)))
inductive LkX (P:Program) (kt:Nat) (k:AV) (ps:List (AV×AV)) (z:AV) (K:AV->Bool->Prop):Prop
 |mk (r:Option Nat) (av:AV) (b:Bool) (hk:Bc P kt k=true) (hf:Be k (ps.map (·.1)) 0=some r) (hb:r.isSome=b) (hs:Sub (F9 z ps r) av) (c:K av b)
inductive UpX (P:Program) (kt:Nat) (k x:AV) (ps:List (AV×AV)) (K:List (AV×AV)->Prop):Prop
 |mk (r:Option Nat) (qs:List (AV×AV)) (hk:Bc P kt k=true) (hf:Be k (ps.map (·.1)) 0=some r) (hs:SubM (putK r k x ps) qs) (c:K qs)
inductive PosX (n:Int) (K:Prop):Prop
 |mk (h:0<n) (k:K)
inductive ShX (b:Int) (K:Prop):Prop
 |mk (h:0<=b) (k:K)
inductive EqX (p:Prop) (K:Prop):Prop
 |mk (h:p) (k:K)
inductive B4 (E:Env) (f:FuncId) (avs:List AV) (K:AV->Prop) (raw:List AV) (find:Nat->Option Ent) (dst:Option Nat) (KR:AV->List Nat->List (Nat×Ent)->Prop):Prop
 |mk (fr:Bool) (res:AV) (h:Con E fr f avs res) (hf:fr=true\/res.flat=true) (k:K res)
 |take (id d ty sz:Nat) (xs:List AV) (ty' sz':Nat) (xs':List AV) (res:AV) (cargs:List AV) (hdr0:E.dr=false) (h:ConC false E f cargs ty sz xs ty' sz' xs' res) (hr:aM (fun _=>id) cargs=raw) (hin:aN [0] cargs=true) (hl:find id=some (.row ty sz xs)) (hd:dst=some d) (hn:find d=none) (hne:id≠d) (k:KR (res.ren fun _=>d) [d,id] [(d,.row ty' sz' xs'),(id,.dead)])
 |eat (id ty sz:Nat) (xs avs':List AV) (fr:Bool) (res:AV) (hl:find id=some (.row ty sz xs)) (ha:AV.frzL id sz xs raw=avs') (hcl:aU avs'=true) (h:Con E fr f avs' res) (k:KR res [id] [(id,.dead)])
 |memo (ps ps':List (Nat×Nat)) (cargs:List AV) (me me':List (Nat×Ent)) (res:AV) (dead:List Nat) (he:C6 E f) (hdr0:E.dr=false) (h:ConG E.P E.yl (CalF E.P f 0) cargs [] me res me') (hra:aM (rho ps) cargs=raw) (hia:aN (me.map (·.1)) cargs=true) (hle:LeF find (rho ps) (me.map (·.1)) me) (hn:Ct find (rho ps) (rho ps') me me' res dead) (k:KR (res.ren (rho ps')) (idsG (rho ps) (rho ps') me me') (wrG (rho ps') me' dead))
 |turn (id ty sz:Nat) (xs xs':List AV) (res:AV) (cargs:List AV) (hdr0:E.dr=false) (h:ConC true E f cargs ty sz xs ty sz xs' res) (hr:aM (fun _=>id) cargs=raw) (hin:aN [0] cargs=true) (hl:find id=some (.row ty sz xs)) (k:KR (res.ren fun _=>id) [id] [(id,.row ty sz xs')])
def y0n (E:Env)(nt:Nat)(o:Oper)(σ:AS)(av:AV)(ids:List Nat)(wr:List (Nat×Ent)):Prop:=∀ cx:Cx,cx.E=E->cx.nt=nt->Ag cx o σ av ids wr
inductive OpX (E:Env) (nt:Nat) (o:Oper) (σ:AS) (K:AV->List Nat->List (Nat×Ent)->Prop):Prop
 |mk (av:AV) (ids:List Nat) (wr:List (Nat×Ent)) (h:y0n E nt o σ av ids wr) (k:K av ids wr)
def LeX (E:Env)(nt:Nat)(σ τ:AS):Prop:=∀ cx:Cx,cx.E=E->cx.nt=nt->Le cx σ τ
inductive Av (E:Env) (nt:Nat) (F:(AS->Prop)->AS->Prop) (σ:AS):Prop
 |mk (I:Nat->AS->Prop) (n:Nat) (τ:AS) (hl:LeX E nt σ τ) (h0:I n τ) (round:∀ n σ,I n σ->F (fun σ'=>∃ m τ,LeX E nt σ' τ/\m<n/\I m τ) σ)
def dokN (E:Env)(nt:Nat)(d:Option Nat):Bool:=match d with|some d=>aJ E.np d && Nat.blt d nt|none=>true
def F5 (agg:Bool)(sz n:Nat)(l:List AV):List AV :=
 (range n).map fun k=>match agg with|true=>.agg ((l.drop (k*sz)).take sz)|false=>(l[k]?).getD .any
def Yr:AV->Bool
 |.agg _=>false
 |_=>true
abbrev OpK:=AV->List Nat->List (Nat×Ent)->Prop
inductive D3
 |no
 |val (av:AV) (ids:List Nat) (wr:List (Nat×Ent))
 |ask (p:OpK->Prop)
@[reducible] def D3.run (r:D3)(K:OpK):Prop:=match r with
 |.no=>False
 |.val av ids wr=>K av ids wr
 |.ask p=>p K
def zyk (E:Env)(nt:Nat)(o:Oper)(σ:AS)(i:TyI):AV->D3
 |.ptr id off=>match σ.find id with
  |some (.box _ cs)=>match i.shape.agg with
   |true=>match aJ (off+i.sz) cs.length with
    |true=>.val (.agg ((cs.drop off).take i.sz)) [id] []
    |false=>.no
   |false=>match cs[off]? with
    |some av=>.val av [id] []
    |none=>.no
  |_=>.no
 |.elt id sz k j=>match σ.find id with
  |some (.row _ sz' xs)=>match aC sz' sz with
   |true=>.ask (fun K=>EltX xs k fun el=>match i.shape.agg with
    |true=>match aC i.sz sz && aC j 0 with
     |true=>K (.agg el.cells) [id] []
     |false=>match aJ (j+i.sz) sz with
      |true=>K (.agg ((el.cells.drop j).take i.sz)) [id] []
      |false=>False
    |false=>match el.cells[j]? with
     |some av=>K av [id] []
     |none=>False)
   |false=>.no
  |_=>.no
 |.ref cs=>match i.shape.agg with
  |true=>match aJ i.sz cs.length with
   |true=>.val (.agg (cs.take i.sz)) [] []
   |false=>.no
  |false=>match cs with
   |av::_=>.val av [] []
   |[]=>.no
 |_=>.ask (fun K=>OpX E nt o σ K)
def zws:AV->Nat->Nat->AV->AV
 |.agg cs,j,n,av=>.agg (cs.take j++av.cells++cs.drop (j+n))
 |_,_,_,av=>av
def elOk:AV->Nat->Nat->Bool
 |.agg _,_,_=>true
 |_,j,n=>aC j 0 && aC n 1
theorem zls {el av:AV}{j n:Nat}(h:elOk el j n=true):(zws el j n av).cells=el.cells.take j++av.cells++el.cells.drop (j+n):=by
 cases el with
 |agg cs=>rfl
 |_ =>
  simp only [elOk,aA] at h
  have h1:=aB h.1
  have h2:=aB h.2
  subst h1
  subst h2
  simp [zws,aL]
def zt6 (E:Env)(nt:Nat)(o:Oper)(σ:AS)(i:TyI)(av:AV):AV->D3
 |.ptr id off=>match σ.find id with
  |some (.box ty cs)=>match aJ (off+i.sz) cs.length && (aC av.cells.length i.sz && okc σ av) with
   |true=>.val (.tup []) (id::av.ids) [(id,.box ty (cs.take off++av.cells++cs.drop (off+i.sz)))]
   |false=>.no
  |_=>.no
 |.elt id sz k j=>match σ.find id with
  |some (.row ty sz' xs)=>match aC sz' sz && (aC av.cells.length i.sz && (aJ (j+i.sz) sz && (okc σ av && av.closed))) with
   |true=>.ask (fun K=>SetX xs k j i.sz av (fun el=>elOk el j i.sz) (fun el=>zws el j i.sz av) fun zs=>K (.tup []) (id::av.ids) [(id,.row ty sz zs)])
   |false=>.ask (fun K=>OpX E nt o σ K)
  |_=>.no
 |_=>.ask (fun K=>OpX E nt o σ K)
def zt7 (E:Env)(nt:Nat)(o:Oper)(σ:AS)(fo:Nat):AV->D3
 |.ptr id off=>match σ.find id with
  |some (.box _ _)=>.val (.ptr id (off+fo)) [id] []
  |_=>.no
 |.elt id sz k j=>match σ.find id with
  |some (.row _ sz' xs)=>match aC sz' sz with
   |true=>.ask (fun K=>LtX k xs.length (K (.elt id sz k (j+fo)) [id] []))
   |false=>.no
  |_=>.no
 |.ref cs=>.val (.ref (cs.drop fo)) [] []
 |_=>.ask (fun K=>OpX E nt o σ K)
def za4 (E:Env)(nt:Nat)(o:Oper)(σ:AS)(sz:Nat)(x y:AV):D3 :=
 match x,y with
 |.sl sz' xs,.int _ n=>match aC sz' sz with
  |true=>.ask (fun K=>IdxX xs n fun el=>K (.ref el.cells) [] [])
  |false=>.no
 |.row id,.int _ n=>match σ.find id with
  |some (.row _ sz' xs)=>match aC sz' sz with
   |true=>.ask (fun K=>NatX n xs.length fun m=>K (.elt id sz m 0) [id] [])
   |false=>.no
  |_=>.no
 |_,_=>.ask (fun K=>OpX E nt o σ K)
def zcp (E:Env)(nt:Nat)(o:Oper)(σ:AS)(len esz:Nat)(x y:AV):D3 :=
 match x,y with
 |.ptr id off,.int _ n=>match σ.find id with
  |some (.box _ _)=>.ask (fun K=>NatX n len fun m=>K (.ptr id (off+m*esz)) [id] [])
  |_=>.no
 |_,_=>.ask (fun K=>OpX E nt o σ K)
def aBin (E:Env)(nt:Nat)(o:Oper)(σ:AS)(op:BinOp)(t:Nat)(x y:AV):D3 :=
 match x,y with
 |.int k a,.int k' b=>match shI op k a b with
  |some av=>.ask (fun K=>ShX b (K av [] []))
  |none=>match decide (k=k') with
   |true=>match op with
    |.quo=>.ask (fun K=>NzX b (K (.int k (k.wrap (a.tdiv b))) [] []))
    |.rem=>.ask (fun K=>NzX b (K (.int k (a.tmod b)) [] []))
    |op=>match binI op k a b with
     |some av=>.val av [] []
     |none=>match bitI op k a b with
      |some av=>.val av [] []
      |none=>.ask (fun K=>OpX E nt o σ K)
   |false=>.no
 |.bool a,.bool b=>match lkT E.tab t with
  |some i=>match i.shape,op with
   |.bool,.eql=>.val (.bool (a == b)) [] []
   |.bool,.neq=>.val (.bool (!(a == b))) [] []
   |_,_=>.ask (fun K=>OpX E nt o σ K)
  |none=>.ask (fun K=>OpX E nt o σ K)
 |.str a,.str b=>match binS op a b with
  |some c=>.val (.bool c) [] []
  |none=>.ask (fun K=>OpX E nt o σ K)
 |.agg cs,.agg ds=>match op,eqL cs ds with
  |.eql,some c=>.ask (fun K=>EqX (Yu E.P t cs=true) (K (.bool c) [] []))
  |.neq,some c=>.ask (fun K=>EqX (Yu E.P t cs=true) (K (.bool (!c)) [] []))
  |_,_=>.ask (fun K=>OpX E nt o σ K)
 |_,_=>.ask (fun K=>OpX E nt o σ K)
def zyl (E:Env)(nt:Nat)(o:Oper)(σ:AS)(args:Array Operand):AV->D3
 |.fn f cap=>match aU (Bw σ args cap) with
  |true=>.ask (fun K=>Af E f (Bw σ args cap) (fun res=>K res [] []) (fun ty sz xs res=>match o.dst with
   |some d=>match σ.find d with
    |none=>K (res.ren fun _=>d) [d] [(d,.row ty sz xs)]
    |some _=>False
   |none=>False) σ.find K)
  |false=>.ask (fun K=>B4 E f ((Bw σ args cap).map (Oc σ)) (fun res=>K res ((Bw σ args cap).flatMap (ids2 σ)) []) (Bw σ args cap) σ.find o.dst K)
 |.yld l T cap=>.ask (fun K=>YldX E l T (args.toList.map σ.eval) cap σ.find K)
 |_=>.ask (fun K=>OpX E nt o σ K)
def aLen (E:Env)(nt:Nat)(o:Oper)(σ:AS)(i:TyI):AV->D3
 |.sl _ xs=>match i.shape with|.slc _ _ _=>.val (.int .i64 (xs.length:Int)) [] []|_=>.no
 |.nils=>match i.shape with|.slc _ _ _=>.val (.int .i64 0) [] []|_=>.no
 |.row id=>match i.shape,σ.find id with|.slc _ _ _,some (.row _ _ xs)=>.val (.int .i64 (xs.length:Int)) [id] []|.map _ _,some (.mp ps)=>.val (.int .i64 (ps.length:Int)) [id] []|_,_=>.no
 |.str s=>match i.shape with|.str=>.val (.int .i64 (s.size:Int)) [] []|_=>.no
 |_=>.ask (fun K=>OpX E nt o σ K)
def zmz (E:Env)(nt:Nat)(o:Oper)(σ:AS)(e sz:Nat)(ie:TyI)(d:Nat)(x y:AV):D3 :=
 match x,y with
 |.nils,.sl sz' ys=>match aC sz' sz with|true=>.ask (fun K=>forced ie.bytes fun by_=>AppX ys.length by_ ys fun zs=>K (.row d) [d] [(d,.row e sz zs)])|false=>.no
 |.nils,.nils=>.val (.row d) [d] [(d,.row e sz [])]
 |.row id,.sl sz' ys=>match σ.find id with
  |some (.row e' sz2 xs)=>match aC sz' sz && (aC e' e && (aC sz2 sz && !Nat.beq id d)) with
   |true=>.ask (fun K=>forced ie.bytes fun by_=>AppX (xs.length+ys.length) by_ (xs++ys) fun zs=>K (.row d) [d,id] [(d,.row e sz zs),(id,.dead)])
   |false=>.no
  |_=>.no
 |_,_=>.ask (fun K=>OpX E nt o σ K)
def Dd:List Value->Bool
 |[]=>true
 |v::r=>v.oneCell' && Dd r
theorem Gt {cs:Array Value}(h:Dd cs.toList=true):cs.all (·.oneCell')=true:=by
 have key:∀ l:List Value,Dd l=true->∀ v∈l,v.oneCell'=true:=fun l=>by
  induction l with
  |nil=>intro _ v hv;simp at hv
  |cons x r ih =>
   intro h v hv
   simp only [Dd,aA] at h
   rcases mem_cons.1 hv with rfl|hv
   ·exact h.1
   ·exact ih h.2 v hv
 rw [Array.all_eq_true_iff_forall_mem]
 intro v hv
 exact key _ h v (by simpa using hv)
def isU8:E3->Bool
 |.int .u8=>true
 |_=>false
def zt5 (E:Env)(nt:Nat)(o:Oper)(σ:AS)(Ti:Nat)(x y:Operand)(i:TyI)(d:Nat):D3 :=
 match A5 x && A5 y,i.shape,σ.eval x,σ.eval y with
 |true,.slc e esz _,.nils,.int _ n=>match lkT E.tab Ti,lkT E.tab e,σ.find d with
  |some it,some ie,none=>match it.shape,!Nat.beq esz 0 && (Kr ie && Dd ie.zero.cells.toList) with
   |.int _,true=>.ask (fun K=>PosX n (fAV (D1 ie) fun z=>forced ie.bytes fun by_=>MakX n by_ z fun zs=>K (.row d) [d] [(d,.row e esz zs)]))
   |_,_=>.no
  |_,_,_=>.no
 |_,_,_,_=>.ask (fun K=>OpX E nt o σ K)
def zgw (E:Env)(nt:Nat)(o:Oper)(σ:AS)(b:Builtin)(args:Array Operand)(tys:Array TypeId):D3 :=
 match b,args.toList,tys.toList with
 |.len,[x],[T]=>match A5 x,lkT E.tab T with
  |true,some i=>aLen E nt o σ i (σ.eval x)
  |_,_=>.no
 |.cap,[x],[T]=>match A5 x,lkT E.tab T,σ.eval x with
  |true,some i,.nils=>match i.shape with|.slc _ _ _=>.val (.int .i64 0) [] []|_=>.no
  |_,_,_=>.ask (fun K=>OpX E nt o σ K)
 |.max,[x,y],_=>match A5 x && A5 y,σ.eval x,σ.eval y with
  |true,.int k a,.int _ b=>.val (.int k (max a b)) [] []
  |_,_,_=>.ask (fun K=>OpX E nt o σ K)
 |.min,[x,y],_=>match A5 x && A5 y,σ.eval x,σ.eval y with
  |true,.int k a,.int _ b=>.val (.int k (min a b)) [] []
  |_,_,_=>.ask (fun K=>OpX E nt o σ K)
 |.append,[x,y],[T,T']=>match A5 x && (A5 y && aC T T'),lkT E.tab T,o.dst with
  |true,some i,some d=>match i.shape,σ.find d with
   |.slc e sz _,none=>match lkT E.tab e with
    |some ie=>match aC ie.sz sz && (!Nat.beq sz 0 && aC ie.zero.cells.size sz) with
     |true=>match E.dr with|false=>zmz E nt o σ e sz ie d (σ.eval x) (σ.eval y)|true=>.no
     |false=>.no
    |none=>.no
   |_,_=>.no
  |false,some i,some d=>zt5 E nt o σ T' x y i d
  |_,_,_=>.no
 |_,_,_=>.ask (fun K=>OpX E nt o σ K)
abbrev Kn:=List (Nat×Bool)
def lkB:Kn->Nat->Option Bool
 |[],_=>none
 |(u,b)::r,t=>match aC u t with|true=>some b|false=>lkB r t
def Sa (d:Nat):Kn->Kn
 |[]=>[]
 |(u,b)::r=>match aC u d with|true=>Sa d r|false=>(u,b)::Sa d r
def S9:Option Nat->Kn->Kn
 |some d,kn=>Sa d kn
 |none,kn=>kn
def KnOk (σ:AS)(kn:Kn):Prop:=∀ t b,lkB kn t=some b->σ.get t=.bool b
def knOf (kn:Kn):Operand->Option Bool
 |.tmp t=>lkB kn t
 |.const (.bool true)=>some true
 |.const (.bool false)=>some false
 |_=>none
variable {σ:AS}{kn:Kn}
theorem KnOk.of (h:KnOk σ kn){c:Operand}{b:Bool}(hc:knOf kn c=some b):σ.eval c=.bool b:=by
 unfold knOf at hc
 split at hc
 ·exact h _ _ hc
 ·injection hc with hc;subst hc;rfl
 ·injection hc with hc;subst hc;rfl
 ·cases hc
theorem zuk (kn:Kn)(d t:Nat):lkB (Sa d kn) t=if d=t then none else lkB kn t:=by
 induction kn with
 |nil=>simp [Sa,lkB]
 |cons x r ih =>
  obtain ⟨u,b⟩:=x
  simp only [Sa]
  cases hb:aC u d with
  |true =>
   have:=aB hb
   subst this
   rw [ih]
   by_cases h:u=t
   ·rw [if_pos h,if_pos h]
   ·rw [if_neg h,if_neg h]
    simp only [lkB]
    cases hq:aC u t with
    |true=>exact absurd (aB hq) h
    |false=>rfl
  |false =>
   simp only [lkB]
   rw [ih]
   have hud:=aK hb
   cases hq:aC u t with
   |true =>
    have:=aB hq
    subst this
    simp only
    rw [if_neg (fun e=>hud e.symm)]
   |false=>simp only
theorem KnOk.upd (h:KnOk σ kn)(d:Option Nat)(v:AV)(wr:List (Nat×Ent)):KnOk (σ.upd d v wr) (S9 d kn):=fun t b ht=>by
 rw [aV]
 cases d with
 |none=>rw [if_neg (by simp)];exact h t b ht
 |some d =>
  simp only [S9] at ht
  rw [zuk] at ht
  by_cases hd:d=t
  ·rw [if_pos hd] at ht;cases ht
  ·rw [if_neg hd] at ht
   rw [if_neg (fun e=>hd (by injection e))]
   exact h t b ht
theorem KnOk.know (h:KnOk σ kn)(t:Nat)(b:Bool):KnOk (σ.upd (some t) (.bool b) []) ((t,b)::kn):=fun u c hu=>by
 rw [aV]
 simp only [lkB] at hu
 by_cases ht:t=u
 ·subst ht
  simp only [Nat.beq_refl] at hu
  injection hu with hu
  rw [if_pos rfl,hu]
 ·rw [if_neg (fun e=>ht (by injection e))]
  cases hq:aC t u with
  |true=>exact absurd (aB hq) ht
  |false=>rw [hq] at hu;exact h u c hu
def zmw (E:Env)(nt:Nat)(o:Oper)(σ:AS)(T:Nat)(x y:Operand)(ok:Bool):D3 :=
 match A5 x && A5 y,lkT E.tab T,σ.eval x with
 |true,some i,.row id=>match i.shape,σ.find id with
  |.map kt et,some (.mp ps)=>match lkT E.tab et with
   |some ie=>match Dd ie.zero.cells.toList with
    |true=>fAV (Ek ie.zero) fun z=>.ask (fun K=>LkX E.P kt (σ.eval y) ps z fun av b=>match ok with|true=>K (.tup [av,.bool b]) [id] []|false=>K av [id] [])
    |false=>.no
   |none=>.no
  |_,_=>.ask (fun K=>OpX E nt o σ K)
 |_,_,_=>.ask (fun K=>OpX E nt o σ K)
def Yp (E:Env)(nt:Nat)(o:Oper)(σ:AS)(T:Nat)(x y z:Operand):D3 :=
 match A5 x && (A5 y && A5 z),lkT E.tab T,σ.eval x with
 |true,some i,.row id=>match i.shape,σ.find id with
  |.map kt _,some (.mp ps)=>match (σ.eval z).closed with
   |true=>.ask (fun K=>UpX E.P kt (σ.eval y) (σ.eval z) ps fun qs=>K (.tup []) [id] [(id,.mp qs)])
   |false=>.no
  |_,_=>.ask (fun K=>OpX E nt o σ K)
 |_,_,_=>.ask (fun K=>OpX E nt o σ K)
def subB (lo hi:Option Operand):Bool:=match lo,hi with
 |some _,none=>true
 |_,_=>false
def zyx (E:Env)(T:Nat):Bool:=match lkT E.tab T with
 |some i=>match i.shape with
  |.map _ et=>match lkT E.tab et with
   |some ie=>match ie.shape with
    |.slc _ _ _=>true
    |_=>false
   |none=>false
  |_=>false
 |none=>false
def aop (E:Env)(nt:Nat)(kn:Kn)(o:Oper)(σ:AS):D3 :=
 match dokN E nt o.dst with
 |false=>.no
 |true=>match o.op with
  |.move x=>match A5 x with|true=>.val (σ.eval x) [] []|false=>.no
  |.assign x=>match A5 x with|true=>.val (σ.eval x) [] []|false=>.no
  |.pick c x y=>match A5 c && (A5 x && A5 y),knOf kn c with
   |true,some true=>.val (σ.eval x) [] []
   |true,some false=>.val (σ.eval y) [] []
   |true,none=>match σ.eval c with
    |.bool b=>.ask (fun K=>A4 b (K (σ.eval x) [] []) (K (σ.eval y) [] []))
    |_=>.no
   |_,_=>.no
  |.binOp op t x y _=>match A5 x && A5 y with
   |true=>aBin E nt o σ op t (σ.eval x) (σ.eval y)
   |false=>.no
  |.unOp .not _ x=>match A5 x,σ.eval x with
   |true,.bool b=>.val (.bool (!b)) [] []
   |_,_=>.no
  |.unOp .neg _ x=>match A5 x,σ.eval x with
   |true,.int k a=>.val (.int k (k.wrap (0-a))) [] []
   |_,_=>.no
  |.alloc T=>match o.dst,lkT E.tab T with
   |some d,some i=>match σ.find d,Dd i.zero.cells.toList with
    |none,true=>.val (.ptr d 0) [d] [(d,.box T (i.zero.cells.toList.map AV.ofV))]
    |_,_=>.no
   |_,_=>.no
  |.box T x=>match o.dst with
   |some d=>match σ.find d,A5 x && okc σ (σ.eval x) with
    |none,true=>.val (.ptr d 0) (d::(σ.eval x).ids) [(d,.box T (σ.eval x).cells)]
    |_,_=>.no
   |none=>.no
  |.fieldAddr T x f=>match A5 x,lkT E.tab T with
   |true,some i=>match i.shape with
    |.strct fs=>match fs[f]? with
     |some (fo,fsz,_)=>match aC fsz 0 with
      |false=>zt7 E nt o σ fo (σ.eval x)
      |true=>.no
     |none=>.no
    |_=>.no
   |_,_=>.no
  |.load T x=>match A5 x,lkT E.tab T with
   |true,some i=>zyk E nt o σ i (σ.eval x)
   |_,_=>.no
  |.store T x y=>match A5 x && A5 y,lkT E.tab T with
   |true,some i=>zt6 E nt o σ i (σ.eval y) (σ.eval x)
   |_,_=>.no
  |.indexAddr T x y=>match A5 x && A5 y,lkT E.tab T with
   |true,some i=>match i.shape with
    |.slc _ sz _=>match aC sz 0 with
     |false=>za4 E nt o σ sz (σ.eval x) (σ.eval y)
     |true=>.no
    |.arr len _ esz _=>match aC esz 0 with
     |false=>zcp E nt o σ len esz (σ.eval x) (σ.eval y)
     |true=>.no
    |_=>.ask (fun K=>OpX E nt o σ K)
   |_,_=>.no
  |.field T x f=>match A5 x,lkT E.tab T,σ.eval x with
   |true,some i,.agg cs=>match i.shape with
    |.strct fs=>match fs[f]? with
     |some (fo,fsz,some true)=>match aC fsz 0,aJ (fo+fsz) cs.length with
      |false,true=>.val (.agg ((cs.drop fo).take fsz)) [] []
      |_,_=>.no
     |some (fo,fsz,some false)=>match cs[fo]? with
      |some av=>.val av [] []
      |none=>.no
     |_=>.no
    |_=>.no
   |_,_,_=>.ask (fun K=>OpX E nt o σ K)
  |.index T x y=>match A5 x && A5 y,lkT E.tab T,σ.eval x,σ.eval y with
   |true,some i,.agg cs,.int _ n=>match i.shape with
    |.arr len _ esz (some ag)=>match aC esz 0 with
     |false=>.ask (fun K=>NatX n len fun m=>match ag with
      |true=>match aJ (m*esz+esz) cs.length with
       |true=>K (.agg ((cs.drop (m*esz)).take esz)) [] []
       |false=>False
      |false=>match cs[m*esz]? with
       |some av=>K av [] []
       |none=>False)
     |true=>.no
    |_=>.no
   |_,_,_,_=>.ask (fun K=>OpX E nt o σ K)
  |.extract x ix=>match A5 x,σ.eval x with
   |true,.tup cs=>match cs[ix]? with
    |some av=>.val av [] []
    |none=>.no
   |_,_=>.no
  |.build T ps=>match lkT E.tab T,Gw σ ps with
   |some i,true=>match i.shape,Dd i.zero.cells.toList with
    |.strct fs,true=>match fs.all (fun f=>!(aC f.2.1 0)),Df (fun j=>(fs[j]?).map fun f=>(f.1,f.2.1)) (i.zero.cells.toList.map AV.ofV) (Cp σ ps) with
     |true,some cs=>.val (.agg cs) (Gx (Cp σ ps)) []
     |_,_=>.no
    |.arr _ _ esz _,true=>match aC esz 0,Df (fun j=>some (j*esz,esz)) (i.zero.cells.toList.map AV.ofV) (Cp σ ps) with
     |false,some cs=>.val (.agg cs) (Gx (Cp σ ps)) []
     |_,_=>.no
    |_,_=>.no
   |_,_=>.no
  |.buildSlice T n ps=>match lkT E.tab T,Gw σ ps with
   |some i,true=>match i.shape with
    |.slc e esz _=>match lkT E.tab e with
     |some ie=>match n,ps.toList,o.dst with
      |0,[],some d=>match σ.find d,aC esz 0 with
       |none,false=>.val (.row d) [d] [(d,.row e esz [])]
       |_,_=>.no
      |n,_,_=>match isU8 ie.shape || E.bl with
       |true=>.ask (fun K=>OpX E nt o σ K)
       |false=>match Df (fun j=>some (j*esz,esz)) (replicate (n*esz) .any) (Cp σ ps) with
        |some fl=>match !Nat.beq esz 0 && (aJ (n*esz) 16777216 && (Dd ie.zero.cells.toList && (Nat.blt 0 ie.zero.cells.size && (aU (F5 ie.shape.agg esz n fl) && (ie.shape.agg || (aC esz 1 && fl.all Yr)))))) with
         |true=>fL (F5 ie.shape.agg esz n fl) fun xs=>.val (.sl esz xs) (Gx (Cp σ ps)) []
         |false=>.ask (fun K=>OpX E nt o σ K)
        |none=>.no
     |none=>.no
    |_=>.no
   |_,_=>.no
  |.makeSlice T x y=>match o.dst,lkT E.tab T with
   |some d,some i=>match i.shape,σ.find d with
    |.slc e esz _,none=>match lkT E.tab e,A5 x && A5 y,σ.eval x,σ.eval y with
     |some ie,true,.int _ n,.int _ n'=>match !Nat.beq esz 0 && (Kr ie && Dd ie.zero.cells.toList) with
      |true=>.ask (fun K=>EqX (E.dr=false) <| EqX (n'=n) (fAV (D1 ie) fun z=>forced ie.bytes fun by_=>MakX n by_ z fun zs=>K (.row d) [d] [(d,.row e esz zs)]))
      |false=>.no
     |_,_,_,_=>.no
    |_,_=>.no
   |_,_=>.no
  |.makeMap T none=>match zyx E T with
   |true=>.ask (fun K=>OpX E nt o σ K)
   |false=>match o.dst with
    |some d=>match σ.find d with
     |none=>.val (.row d) [d] [(d,.mp [])]
     |some _=>.no
    |none=>.no
  |.lookup T x y ok=>zmw E nt o σ T x y ok
  |.mapUpdate T x y z=>Yp E nt o σ T x y z
  |.insert T x y z=>Yp E nt o σ T x y z
  |.slice T x lo hi none=>match A5 x && (opdO lo && opdO hi),lkT E.tab T,σ.eval x with
   |true,some i,.sl sz xs=>match i.shape with
    |.slc _ sz' _=>match aC sz' sz && !Nat.beq sz 0,bndA σ 0 lo,bndA σ xs.length hi with
     |true,some l,some h=>.ask (fun K=>SlsX xs l h fun zs=>K (.sl sz zs) [] [])
     |_,_,_=>.no
    |_=>.no
   |true,some i,.nils=>match i.shape with
    |.slc _ sz _=>match aC sz 0,bndA σ 0 lo,bndA σ 0 hi with
     |false,some l,some h=>.ask (fun K=>EqX (l=0) (EqX (h=0) (K .nils [] [])))
     |_,_,_=>.no
    |_=>.no
   |true,some i,.row id=>match subB lo hi with
    |true=>.ask (fun K=>OpX E nt o σ K)
    |false=>match i.shape,σ.find id,o.dst with
     |.slc _ sz' _,some (.row e sz xs),some d=>match aC sz' sz && (!Nat.beq sz 0 && !Nat.beq id d),σ.find d,bndA σ 0 lo,bndA σ xs.length hi with
      |true,none,some l,some h=>.ask (fun K=>EqX (l=0) (SlsX xs l h fun zs=>K (.row d) [d,id] [(d,.row e sz zs),(id,.dead)]))
      |_,_,_,_=>.no
     |_,_,_=>.no
   |true,some i,.str s=>match i.shape with
    |.str=>match bndA σ 0 lo,bndA σ s.size hi with
     |some l,some h=>.ask (fun K=>SlcX s.size l h fun l h=>K (.str (s.extract l h)) [] [])
     |_,_=>.no
    |_=>.no
   |_,_,_=>.ask (fun K=>OpX E nt o σ K)
  |.convert T T' x=>match A5 x,σ.eval x,lkT E.tab T,lkT E.tab T' with
   |true,.int _ n,some _,some j=>match j.shape with
    |.int k=>.val (.int k (k.wrap n)) [] []
    |_=>.ask (fun K=>OpX E nt o σ K)
   |_,_,_,_=>.ask (fun K=>OpX E nt o σ K)
  |.makeFunc (.func f) first ps=>match first.toList,ps.toList.all A5 with
   |[],true=>.val (.fn f (ps.toList.map σ.eval)) [] []
   |_,_=>.ask (fun K=>OpX E nt o σ K)
  |.call c=>match c.callee with
   |.builtin b=>zgw E nt o σ b c.args c.argTypes
   |.value x=>match A5 x && c.args.toList.all A5 with
    |true=>zyl E nt o σ c.args (σ.eval x)
    |false=>.no
   |_=>.ask (fun K=>OpX E nt o σ K)
  |_=>.ask (fun K=>OpX E nt o σ K)
def Dg (E:Env)(nt:Nat)(o:Oper)(σ:AS)(K:OpK):Prop:=∃ av ids wr,y0n E nt o σ av ids wr/\K av ids wr
section
variable {E:Env} {nt:Nat} {o:Oper} {σ:AS} {K:OpK}
theorem OpX.sound (h:OpX E nt o σ K):Dg E nt o σ K:=by
 cases h with
 |mk av ids wr h k=>exact ⟨av,ids,wr,h,k⟩
theorem Ak {cx:Cx}(h:dokN E nt o.dst=true)(hE:cx.E=E)(hn:cx.nt=nt):dok cx o=true:=by
 unfold dokN at h
 unfold dok
 rw [hn,hE]
 exact h
theorem nbeq {a b:Nat}(h:aC a b=true):a=b:=aB h
theorem nbne {a b:Nat}(h:aC a b=false):a≠b:=aK h
variable {T:Nat}{x:Operand}{i:TyI}
theorem zmx (ho:o.op=.load T x)(hd:dokN E nt o.dst=true)(hx:A5 x=true)(hT:lkT E.tab T=some i)(h:(zyk E nt o σ i (σ.eval x)).run K):Dg E nt o σ K:=by
 unfold zyk at h
 split at h
 ·rename_i id off he
  split at h
  ·rename_i ty cs hf
   split at h
   ·rename_i ha
    split at h
    ·rename_i hb
     exact ⟨_,_,_,fun cx hE hn=>zox ho (Ak hd hE hn) hx he (by rw [hE];exact hT) ha hf (aD hb),h⟩
    ·exact False.elim h
   ·rename_i ha
    split at h
    ·rename_i av hav
     exact ⟨_,_,_,fun cx hE hn=>zov ho (Ak hd hE hn) hx he (by rw [hE];exact hT) ha hf hav,h⟩
    ·exact False.elim h
  ·exact False.elim h
 ·rename_i id sz k j he
  split at h
  ·rename_i ty sz' xs hf
   split at h
   ·rename_i hsz
    have hsz:=nbeq hsz
    subst hsz
    cases h with
    |mk el hel h =>
     split at h
     ·rename_i ha
      split at h
      ·rename_i hb
       simp only [aA] at hb
       have hj:=nbeq hb.2
       subst hj
       exact ⟨_,_,_,fun cx hE hn=>zd3 ho (Ak hd hE hn) hx he (by rw [hE];exact hT) ha hf (nbeq hb.1) hel,h⟩
      ·split at h
       ·rename_i hb
        exact ⟨_,_,_,fun cx hE hn=>zbb ho (Ak hd hE hn) hx he (by rw [hE];exact hT) ha hf (aD hb) hel,h⟩
       ·exact False.elim h
     ·rename_i ha
      split at h
      ·rename_i av hav
       exact ⟨_,_,_,fun cx hE hn=>zd2 ho (Ak hd hE hn) hx he (by rw [hE];exact hT) ha hf hel hav,h⟩
      ·exact False.elim h
   ·exact False.elim h
  ·exact False.elim h
 ·rename_i cs he
  split at h
  ·rename_i ha
   split at h
   ·rename_i hb
    exact ⟨_,_,_,fun cx hE hn=>zd1 ho (Ak hd hE hn) hx he (by rw [hE];exact hT) ha (aD hb),h⟩
   ·exact False.elim h
  ·rename_i ha
   split at h
   ·exact ⟨_,_,_,fun cx hE hn=>zd0 ho (Ak hd hE hn) hx he (by rw [hE];exact hT) ha,h⟩
   ·exact False.elim h
 ·exact OpX.sound h
variable {y:Operand}
theorem zkn (ho:o.op=.store T x y)(hd:dokN E nt o.dst=true)(hx:A5 x=true)(hy:A5 y=true)(hT:lkT E.tab T=some i)(h:(zt6 E nt o σ i (σ.eval y) (σ.eval x)).run K):Dg E nt o σ K:=by
 unfold zt6 at h
 split at h
 ·rename_i id off he
  split at h
  ·rename_i ty cs hf
   split at h
   ·rename_i hb
    simp only [aA] at hb
    exact ⟨_,_,_,fun cx hE hn=>zwn ho (Ak hd hE hn) hx hy he rfl (by rw [hE];exact hT) hf (aD hb.1) (nbeq hb.2.1) hb.2.2 rfl,h⟩
   ·exact False.elim h
  ·exact False.elim h
 ·rename_i id sz k j he
  split at h
  ·rename_i ty sz' xs hf
   split at h
   ·rename_i hb
    simp only [aA] at hb
    obtain ⟨b1,b2,b3,b4,b5⟩:=hb
    have b1:=nbeq b1
    subst b1
    cases h with
    |mk el hel hok zs hz h =>
     exact ⟨_,_,_,fun cx hE hn=>Ag.weak (.cons _ (.row _ _ hz) .nil) (zb8 ho (Ak hd hE hn) hx hy he rfl (by rw [hE];exact hT) hf hel (nbeq b2) (aD b3) b4 b5 (zls hok)),h⟩
   ·exact OpX.sound h
  ·exact False.elim h
 ·exact OpX.sound h
variable {ag:Option Bool}
theorem zko {f fo fsz:Nat}{fs:List (Nat×Nat×Option Bool)}(ho:o.op=.fieldAddr T x f)(hd:dokN E nt o.dst=true)(hx:A5 x=true)(hT:lkT E.tab T=some i)(hs:i.shape=.strct fs)(hf:fs[f]? = some (fo,fsz,ag))(hz:fsz≠0)(h:(zt7 E nt o σ fo (σ.eval x)).run K):Dg E nt o σ K:=by
 unfold zt7 at h
 split at h
 ·rename_i id off he
  split at h
  ·rename_i ty cs hfi
   exact ⟨_,_,_,fun cx hE hn=>zln ho (Ak hd hE hn) hx he (by rw [hE];exact hT) hs hf hz hfi,h⟩
  ·exact False.elim h
 ·rename_i id sz k j he
  split at h
  ·rename_i ty sz' xs hfi
   split at h
   ·rename_i hsz
    have hsz:=nbeq hsz
    subst hsz
    cases h with
    |mk hk h=>exact ⟨_,_,_,fun cx hE hn=>zbg ho (Ak hd hE hn) hx he (by rw [hE];exact hT) hs hf hz hfi hk,h⟩
   ·exact False.elim h
  ·exact False.elim h
 ·rename_i cs he
  exact ⟨_,_,_,fun cx hE hn=>zbf ho (Ak hd hE hn) hx he (by rw [hE];exact hT) hs hf hz,h⟩
 ·exact OpX.sound h
theorem zb1 {e sz eb:Nat}(ho:o.op=.indexAddr T x y)(hd:dokN E nt o.dst=true)(hx:A5 x=true)(hy:A5 y=true)(hT:lkT E.tab T=some i)(hs:i.shape=.slc e sz eb)(hz:sz≠0)(h:(za4 E nt o σ sz (σ.eval x) (σ.eval y)).run K):Dg E nt o σ K:=by
 unfold za4 at h
 split at h
 ·rename_i sz' xs k n he he2
  split at h
  ·rename_i hsz
   have hsz:=nbeq hsz
   subst hsz
   cases h with
   |mk m el hn1 hel h=>exact ⟨_,_,_,fun cx hE hn=>zd4 ho (Ak hd hE hn) hx hy he he2 (by rw [hE];exact hT) hs hz hn1 hel,h⟩
  ·exact False.elim h
 ·rename_i id k n he he2
  split at h
  ·rename_i ty sz' xs hf
   split at h
   ·rename_i hsz
    have hsz:=nbeq hsz
    subst hsz
    cases h with
    |mk m hn1 hm h=>exact ⟨_,_,_,fun cx hE hn=>zbc ho (Ak hd hE hn) hx hy he he2 hf (by rw [hE];exact hT) hs hz hn1 hm,h⟩
   ·exact False.elim h
  ·exact False.elim h
 ·exact OpX.sound h
theorem zco {len e esz:Nat}(ho:o.op=.indexAddr T x y)(hd:dokN E nt o.dst=true)(hx:A5 x=true)(hy:A5 y=true)(hT:lkT E.tab T=some i)(hs:i.shape=.arr len e esz ag)(hz:esz≠0)(h:(zcp E nt o σ len esz (σ.eval x) (σ.eval y)).run K):Dg E nt o σ K:=by
 unfold zcp at h
 split at h
 ·rename_i id off k n he he2
  split at h
  ·rename_i ty cs hf
   cases h with
   |mk m hn1 hm h=>exact ⟨_,_,_,fun cx hE hn=>zbe ho (Ak hd hE hn) hx hy he he2 hf (by rw [hE];exact hT) hs hz hn1 hm,h⟩
  ·exact False.elim h
 ·exact OpX.sound h
theorem ze1 {P:Program}(h:TyOk P T i)(hs:i.shape=.bool):P.underlying T=some .bool:=by
 obtain ⟨d,hd,he⟩:=h.und
 rw [hs] at he
 cases d<;>simp only [Dk,reduceCtorEq] at he
 exact hd
theorem zpq {op:BinOp}{t t2:Nat}(ho:o.op=.binOp op t x y t2)(hd:dokN E nt o.dst=true)(hx:A5 x=true)(hy:A5 y=true)(h:(aBin E nt o σ op t (σ.eval x) (σ.eval y)).run K):Dg E nt o σ K:=by
 unfold aBin at h
 split at h
 ·rename_i k a k' b he he2
  split at h
  ·rename_i av hav
   cases h with
   |mk hb h=>exact ⟨_,_,_,fun cx hE hn=>y0p ho (Ak hd hE hn) hx hy he he2 hb hav,h⟩
  split at h
  ·rename_i hk
   have hk:k=k':=by simpa using hk
   subst hk
   split at h
   ·cases h with
    |mk hb h=>exact ⟨_,_,_,fun cx hE hn=>y0r ho (Ak hd hE hn) hx hy he he2 hb rfl,h⟩
   ·cases h with
    |mk hb h=>exact ⟨_,_,_,fun cx hE hn=>y0q ho (Ak hd hE hn) hx hy he he2 hb rfl,h⟩
   ·split at h
    ·rename_i av hav
     exact ⟨_,_,_,fun cx hE hn=>zz7 ho (Ak hd hE hn) hx hy he he2 hav,h⟩
    ·split at h
     ·rename_i av hav
      exact ⟨_,_,_,fun cx hE hn=>zz5 ho (Ak hd hE hn) hx hy he he2 hav,h⟩
     ·exact OpX.sound h
  ·exact False.elim h
 ·rename_i a b he he2
  split at h
  ·rename_i i hT
   split at h
   ·rename_i hs
    exact ⟨_,_,_,fun cx hE hn=>y0x ho (Ak hd hE hn) hx hy he he2 (ze1 (cx.E.ok t i (by rw [hE];exact hT)) hs),h⟩
   ·rename_i hs
    exact ⟨_,_,_,fun cx hE hn=>y0u ho (Ak hd hE hn) hx hy he he2 (ze1 (cx.E.ok t i (by rw [hE];exact hT)) hs),h⟩
   ·exact OpX.sound h
  ·exact OpX.sound h
 ·rename_i a b he he2
  split at h
  ·rename_i c hc;exact ⟨_,_,_,fun cx hE hn=>zz6 ho (Ak hd hE hn) hx hy he he2 hc,h⟩
  ·exact OpX.sound h
 ·rename_i cs ds he he2
  split at h
  ·rename_i c hc
   cases h with
   |mk hf h=>exact ⟨_,_,_,fun cx hE hn=>zz3 (aH rfl) ho (Ak hd hE hn) hx hy he he2 (by rw [Cx.P,hE];exact hf) hc,h⟩
  ·rename_i c hc
   cases h with
   |mk hf h=>exact ⟨_,_,_,fun cx hE hn=>zz3 (aO rfl) ho (Ak hd hE hn) hx hy he he2 (by rw [Cx.P,hE];exact hf) hc,h⟩
  ·exact OpX.sound h
 ·exact OpX.sound h
variable {args:Array Operand}{tys:Array TypeId}
theorem zmy (ho:o.op=.call { callee:=.value x,args:=args,argTypes:=tys })(hd:dokN E nt o.dst=true)(hx:A5 x=true)(ha:args.toList.all A5=true)(h:(zyl E nt o σ args (σ.eval x)).run K):Dg E nt o σ K:=by
 unfold zyl at h
 split at h
 ·rename_i f cap he
  split at h
  ·rename_i hcl
   cases h with
   |memo ps ps' cargs me me' res dead hen hdr0 hc hra hia hle hn' h=>exact ⟨_,_,_,fun cx hE hn=>znb ho (Ak hd hE hn) hx ha he (by rw [hE];exact hen) (by rw [hE];exact hdr0) hra hia hle.le hn' (yl:=E.yl) (fun x hx=>by rw [hE];exact hx) (by subst hE;exact hc),h⟩
   |mk fr res hc h=>exact ⟨_,_,_,fun cx hE hn=>zz4 ho (Ak hd hE hn) hx ha he rfl hcl (by rw [hE];exact hc),h⟩
   |row ty sz xs hdr0 hc h =>
    split at h
    ·rename_i d hdst
     split at h
     ·rename_i hf
      exact ⟨_,_,_,fun cx hE hn=>zp2 ho hdst (Ak hd hE hn) hx ha he rfl hcl hf (by rw [hE];exact hc) (by rw [hE];exact hdr0),h⟩
     ·exact False.elim h
    ·exact False.elim h
   |rowT ty sz xs res hdr0 hc h =>
    split at h
    ·rename_i d hdst
     split at h
     ·rename_i hf
      exact ⟨_,_,_,fun cx hE hn=>zlp ho hdst (Ak hd hE hn) hx ha he rfl hcl hf (by rw [hE];exact hc) (by rw [hE];exact hdr0),h⟩
     ·exact False.elim h
    ·exact False.elim h
  ·cases h with
   |mk fr res hc hf h=>exact ⟨_,_,_,fun cx hE hn=>zhx ho (Ak hd hE hn) hx ha he rfl (by rw [hE];exact hc) hf,h⟩
   |take id d ty sz xs ty' sz' xs' res cargs hdr0 hc hr hin hl hdst hn' hne h=>exact ⟨_,_,_,fun cx hE hn=>ztz ho hdst (Ak hd hE hn) hx ha he hr hin hl hne hn' (by rw [hE];exact hc) (by rw [hE];exact hdr0),h⟩
   |eat id ty sz xs avs' fr res hl hae hcl hc h=>exact ⟨_,_,_,fun cx hE hn=>zp3 ho (Ak hd hE hn) hx ha he hl hae hcl (by rw [hE];exact hc),h⟩
   |memo ps ps' cargs me me' res dead hen hdr0 hc hra hia hle hn' h=>exact ⟨_,_,_,fun cx hE hn=>znb ho (Ak hd hE hn) hx ha he (by rw [hE];exact hen) (by rw [hE];exact hdr0) hra hia hle.le hn' (yl:=E.yl) (fun x hx=>by rw [hE];exact hx) (by subst hE;exact hc),h⟩
   |turn id ty sz xs xs' res cargs hdr0 hc hr hin hl h=>exact ⟨_,_,_,fun cx hE hn=>zty ho (Ak hd hE hn) hx ha he hr hin hl (by rw [hE];exact hc) (by rw [hE];exact hdr0),h⟩
 ·rename_i l T cap he
  cases h with
  |mk ps ps' cargs ccaps me me' res dead hdr0 hc hra hrc hia hic hle hn' h=>exact ⟨_,_,_,fun cx hE hn=>zqi ho (Ak hd hE hn) hx ha he (by rw [hE];exact hdr0) hra hrc hia hic hle.le hn' (yl:=E.yl) (fun x hx=>by rw [hE];exact hx) (by subst hE;exact hc),h⟩
 ·exact OpX.sound h
theorem zpp (ho:o.op=.call { callee:=.builtin .len,args:=#[x],argTypes:=#[T] })(hd:dokN E nt o.dst=true)(hx:A5 x=true)(hT:lkT E.tab T=some i)(h:(aLen E nt o σ i (σ.eval x)).run K):Dg E nt o σ K:=by
 unfold aLen at h
 split at h
 ·rename_i sz xs he
  split at h
  ·rename_i hs;exact ⟨_,_,_,fun cx hE hn=>ztw (ty:=0) ho (Ak hd hE hn) hx he (by rw [hE];exact hT) hs,h⟩
  ·exact False.elim h
 ·rename_i he
  split at h
  ·rename_i hs;exact ⟨_,_,_,fun cx hE hn=>zoy (ty:=0) ho (Ak hd hE hn) hx he (by rw [hE];exact hT) hs,h⟩
  ·exact False.elim h
 ·rename_i id he
  split at h
  ·rename_i hs hf;exact ⟨_,_,_,fun cx hE hn=>zql ho (Ak hd hE hn) hx he hf (by rw [hE];exact hT) hs,h⟩
  ·rename_i hs hf;exact ⟨_,_,_,fun cx hE hn=>zqm ho (Ak hd hE hn) hx he hf (by rw [hE];exact hT) hs,h⟩
  ·exact False.elim h
 ·rename_i s he
  split at h
  ·rename_i hs;exact ⟨_,_,_,fun cx hE hn=>zqk ho (Ak hd hE hn) hx he (by rw [hE];exact hT) hs,h⟩
  ·exact False.elim h
 ·exact OpX.sound h
theorem zgx {d e sz eb:Nat}{ie:TyI}(ho:o.op=.call { callee:=.builtin .append,args:=#[x,y],argTypes:=#[T,T] })(hdst:o.dst=some d)(hd:dokN E nt o.dst=true)(hx:A5 x=true)(hy:A5 y=true)(hT:lkT E.tab T=some i)(hs:i.shape=.slc e sz eb)(he:lkT E.tab e=some ie)
  (hsz:ie.sz=sz) (hz:sz≠0) (hzs:ie.zero.cells.size=sz) (hn:σ.find d=none) (hdr0:E.dr=false) (h:(zmz E nt o σ e sz ie d (σ.eval x) (σ.eval y)).run K):Dg E nt o σ K:=by
 unfold zmz at h
 split at h
 ·rename_i sz' ys e1 e2
  split at h
  ·rename_i hq
   have hq:=nbeq hq
   subst hq
   have h:forced _ _:=h
   rw [Ux] at h
   obtain ⟨h1,h2,zs,hzz,h⟩:=h.elim
   exact ⟨_,_,_,fun cx hE hn'=>Ag.weak (.cons _ (.row _ _ hzz) .nil) (zfb (oid:=none) (xs:=[]) ho hdst (Ak hd hE hn') hx hy (by rw [hE];exact hT) hs (by rw [hE];exact he) hsz hz hzs (aH ⟨e1,rfl,rfl⟩) (aH e2) hn (by simpa using h1) (by simpa using h2) (by rw [hE];exact hdr0)),h⟩
  ·exact False.elim h
 ·rename_i e1 e2
  exact ⟨_,_,_,fun cx hE hn'=>zfb (oid:=none) (xs:=[]) (ys:=[]) ho hdst (Ak hd hE hn') hx hy (by rw [hE];exact hT) hs (by rw [hE];exact he) hsz hz hzs (aH ⟨e1,rfl,rfl⟩) (aO ⟨e2,rfl⟩) hn (by simp) (by simp) (by rw [hE];exact hdr0),h⟩
 ·rename_i id sz' ys e1 e2
  split at h
  ·rename_i e' sz2 xs hf
   split at h
   ·rename_i hb
    simp only [aA,aE] at hb
    obtain ⟨b1,b2,b3,b4⟩:=hb
    have b1:=nbeq b1
    have b2:=nbeq b2
    have b3:=nbeq b3
    subst b1
    subst b2
    subst b3
    have h:forced _ _:=h
    rw [Ux] at h
    obtain ⟨h1,h2,zs,hzz,h⟩:=h.elim
    exact ⟨_,_,_,fun cx hE hn'=>Ag.weak (.cons _ (.row _ _ hzz) (.cons _ (.refl _) .nil)) (zfb (oid:=some id) ho hdst (Ak hd hE hn') hx hy (by rw [hE];exact hT) hs (by rw [hE];exact he) hsz hz hzs (aO ⟨id,e1,rfl,nbne b4,hf⟩) (aH e2) hn h1 h2 (by rw [hE];exact hdr0)),h⟩
   ·exact False.elim h
  ·exact False.elim h
 ·exact OpX.sound h
theorem Y8 {α:Type}{l:Array α}{x:α}(h:l.toList=[x]):l=#[x]:=by
 cases l;simp at h;subst h;rfl
theorem Y1 {α:Type}{l:Array α}{x y:α}(h:l.toList=[x,y]):l=#[x,y]:=by
 cases l;simp at h;subst h;rfl
theorem zkm {Ti d:Nat}(ho:o.op=.call { callee:=.builtin .append,args:=#[x,y],argTypes:=#[T,Ti] })(hdst:o.dst=some d)(hd:dokN E nt o.dst=true)(hT:lkT E.tab T=some i)(h:(zt5 E nt o σ Ti x y i d).run K):Dg E nt o σ K:=by
 unfold zt5 at h
 split at h
 ·rename_i e esz eb k n hxy hs he he2
  simp only [aA] at hxy
  split at h
  ·rename_i it ie hTi hie hf
   split at h
   ·rename_i kn hsi hb
    simp only [aA,aE] at hb
    cases h with
    |mk h0 h =>
     rw [Ob] at h
     have h2:forced _ _:=h
     rw [Ux] at h2
     clear h
     cases h2 with
     |mk m hm h1 h2 zs hz h =>
      exact ⟨_,_,_,fun cx hE hn=>Ag.weak (.cons _ (.row _ _ hz) .nil) (zd5 ho hdst (Ak hd hE hn) hxy.1 hxy.2 he he2 (by rw [hE];exact hT) hs (by rw [hE];exact hTi) hsi (by rw [hE];exact hie) (nbne hb.1) hb.2.1 (Gt hb.2.2) hf hm h0 h1 h2),h⟩
   ·exact False.elim h
  ·exact False.elim h
 ·exact OpX.sound h
theorem zdz {b:Builtin}(ho:o.op=.call { callee:=.builtin b,args:=args,argTypes:=tys })(hd:dokN E nt o.dst=true)(h:(zgw E nt o σ b args tys).run K):Dg E nt o σ K:=by
 unfold zgw at h
 split at h
 ·rename_i x T hl hl2
  have hl:=Y8 hl
  have hl2:=Y8 hl2
  subst hl
  subst hl2
  split at h
  ·rename_i i hx hT
   exact zpp ho hd hx hT h
  ·exact False.elim h
 ·rename_i x T hl hl2
  have hl:=Y8 hl
  have hl2:=Y8 hl2
  subst hl
  subst hl2
  split at h
  ·rename_i i hx hT he
   split at h
   ·rename_i hs;exact ⟨_,_,_,fun cx hE hn=>zp1 ho (Ak hd hE hn) hx he (by rw [hE];exact hT) hs,h⟩
   ·exact False.elim h
  ·exact OpX.sound h
 ·rename_i x y hl
  have hl:=Y1 hl
  subst hl
  split at h
  ·rename_i k a k' b hxy he he2
   simp only [aA] at hxy
   exact ⟨_,_,_,fun cx hE hn=>y0w ho (Ak hd hE hn) hxy.1 hxy.2 he he2,h⟩
  ·exact OpX.sound h
 ·rename_i x y hl
  have hl:=Y1 hl
  subst hl
  split at h
  ·rename_i k a k' b hxy he he2
   simp only [aA] at hxy
   exact ⟨_,_,_,fun cx hE hn=>y0v ho (Ak hd hE hn) hxy.1 hxy.2 he he2,h⟩
  ·exact OpX.sound h
 ·rename_i x y T T' hl hl2
  have hl:=Y1 hl
  have hl2:=Y1 hl2
  subst hl
  subst hl2
  split at h
  ·rename_i i d hxy hT hdst
   simp only [aA] at hxy
   obtain ⟨hx,hy,htt⟩:=hxy
   have htt:=nbeq htt
   subst htt
   split at h
   ·rename_i e sz eb hs hf
    split at h
    ·rename_i ie he
     split at h
     ·rename_i hb
      simp only [aA,aE] at hb
      split at h
      ·rename_i hdr0;exact zgx ho hdst hd hx hy hT hs he (nbeq hb.1) (nbne hb.2.1) (nbeq hb.2.2) hf hdr0 h
      ·exact False.elim h
     ·exact False.elim h
    ·exact False.elim h
   ·exact False.elim h
  ·rename_i i d hxy hT hdst;exact zkm ho hdst hd hT h
  ·exact False.elim h
 ·exact OpX.sound h
theorem zcl (agg:Bool)(sz n:Nat)(l:List AV)(hl:l.length=n*sz)(hc:agg=true\/(sz=1/\l.all Yr=true)):(F5 agg sz n l).flatMap aL=l/\(F5 agg sz n l).length=n/\∀ x∈F5 agg sz n l,x.cells.length=sz:=by
 have key:∀ (l:List AV) (n:Nat),l.length=n*sz->((range n).map fun k=>AV.agg ((l.drop (k*sz)).take sz)).flatMap aL=l:=fun l n hl=>by
  induction n generalizing l with
  |zero=>simp at hl;subst hl;rfl
  |succ n ih =>
   rw [range_succ_eq_map,map_cons,flatMap_cons,map_map]
   have h1:(l.drop sz).length=n*sz:=by rw [length_drop,hl,aP];omega
   have h2:=ih (l.drop sz) h1
   have h3:(range n).map ((fun k=>AV.agg ((l.drop (k*sz)).take sz)) ∘ Nat.succ)=(range n).map fun k=>AV.agg (((l.drop sz).drop (k*sz)).take sz):=by
    refine map_congr_left fun k _=>?_
    simp only [Function.comp,drop_drop,aP]
    rw [Nat.add_comm sz (k*sz)]
   rw [h3,h2]
   simp only [aL,Nat.zero_mul,drop_zero,take_append_drop]
 rcases hc with rfl|⟨rfl,hna⟩
 ·refine ⟨key l n hl,by simp [F5],fun x hx=>?_⟩
  simp only [F5,mem_map,mem_range] at hx
  obtain ⟨k,hk,rfl⟩:=hx
  have:(k+1)*sz<=n*sz:=Nat.mul_le_mul_right _ hk
  rw [aP] at this
  simp only [aL,length_take,length_drop]
  omega
 ·cases agg with
  |true =>
   refine ⟨key l n hl,by simp [F5],fun x hx=>?_⟩
   simp only [F5,mem_map,mem_range] at hx
   obtain ⟨k,hk,rfl⟩:=hx
   simp only [aL,length_take,length_drop]
   omega
  |false =>
   have hn:l.length=n:=by omega
   have e:F5 false 1 n l=l:=by
    unfold F5
    apply ext_getElem
    ·simp [hn]
    ·intro k h1 h2
     simp [getElem?_eq_getElem h2]
   rw [e]
   have hcell:∀ x∈l,x.cells=[x]:=fun x hx=>by
    simp only [all_eq_true] at hna
    have:=hna x hx
    cases x<;>first|rfl|simp [Yr] at this
   refine ⟨?_,hn,fun x hx=>by rw [hcell x hx];rfl⟩
   clear e hn hl hna
   induction l with
   |nil=>rfl
   |cons x r ih=>rw [flatMap_cons,hcell x (by simp),ih (fun y hy=>hcell y (by simp [hy]))];rfl
theorem z6v (place:Nat->Option (Nat×Nat)):∀ (ps:List (Nat×AV)) (cells cs:List AV),Df place cells ps=some cs->cs.length=cells.length
 |[],cells,cs,h=>by simp only [Df,Option.some.injEq] at h;rw [h]
 |(i,v)::r,cells,cs,h=>by
  simp only [Df] at h
  split at h
  ·cases h
  ·rename_i off size hp
   split at h
   ·rename_i hb
    simp only [aA] at hb
    have h1:=nbeq hb.1
    have h2:=aD hb.2
    rw [z6v place r _ cs h]
    simp
    omega
   ·cases h
theorem Xn {v:Value}(h:Dd v.cells.toList=true):Sd v=true:=by
 cases v<;>first|rfl|exact Gt h
theorem zgv {ok:Bool}(ho:o.op=.lookup T x y ok)(hd:dokN E nt o.dst=true)(h:(zmw E nt o σ T x y ok).run K):Dg E nt o σ K:=by
 unfold zmw at h
 split at h
 ·rename_i i id hxy hT he
  simp only [aA] at hxy
  split at h
  ·rename_i kt et ps hs hf
   split at h
   ·rename_i ie hie
    split at h
    ·rename_i hz
     rw [Ob] at h
     cases h with
     |mk r av b hk hfi hb hsu h =>
      subst hb
      cases ok with
      |true=>exact ⟨_,_,_,fun cx hE hn=>zna (ok:=true) ho (Ak hd hE hn) hxy.1 hxy.2 he rfl hf (by rw [hE];exact hT) hs (by rw [hE];exact hie) (Xn hz) (by rw [Cx.P,hE];exact hk) hfi hsu,h⟩
      |false=>exact ⟨_,_,_,fun cx hE hn=>zna (ok:=false) ho (Ak hd hE hn) hxy.1 hxy.2 he rfl hf (by rw [hE];exact hT) hs (by rw [hE];exact hie) (Xn hz) (by rw [Cx.P,hE];exact hk) hfi hsu,h⟩
    ·exact False.elim h
   ·exact False.elim h
  ·exact OpX.sound h
 ·exact OpX.sound h
theorem z9d {z:Operand}(ho:o.op=.mapUpdate T x y z\/o.op=.insert T x y z)(hd:dokN E nt o.dst=true)(h:(Yp E nt o σ T x y z).run K):Dg E nt o σ K:=by
 unfold Yp at h
 split at h
 ·rename_i i id hxy hT he
  simp only [aA] at hxy
  split at h
  ·rename_i kt et ps hs hf
   split at h
   ·rename_i hcl
    cases h with
    |mk r qs hk hfi hsu h =>
     exact ⟨_,_,_,fun cx hE hn=>zlf ho (Ak hd hE hn) hxy.1 hxy.2.1 hxy.2.2 he rfl rfl hf (by rw [hE];exact hT) hs (by rw [Cx.P,hE];exact hk) hcl hfi hsu,h⟩
   ·exact False.elim h
  ·exact OpX.sound h
 ·exact OpX.sound h
theorem zt2 (hkn:KnOk σ kn)(h:(aop E nt kn o σ).run K):Dg E nt o σ K:=by
 unfold aop at h
 split at h
 ·exact False.elim h
 rename_i hd
 split at h
 ·rename_i x ho
  split at h
  ·rename_i hx;exact ⟨_,_,_,fun cx hE hn=>zz2 ho (Ak hd hE hn) hx rfl,h⟩
  ·exact False.elim h
 ·rename_i x ho
  split at h
  ·rename_i hx;exact ⟨_,_,_,fun cx hE hn=>zu0 ho (Ak hd hE hn) hx rfl,h⟩
  ·exact False.elim h
 ·rename_i c x y ho
  split at h
  ·rename_i hok hc
   simp only [aA] at hok
   exact ⟨_,_,_,fun cx hE hn=>zb9 ho (Ak hd hE hn) hok.1 hok.2.1 (hkn.of hc) rfl rfl,h⟩
  ·rename_i hok hc
   simp only [aA] at hok
   exact ⟨_,_,_,fun cx hE hn=>zab ho (Ak hd hE hn) hok.1 hok.2.2 (hkn.of hc) rfl rfl,h⟩
  ·rename_i hok hc
   simp only [aA] at hok
   split at h
   ·rename_i b hc
    cases h with
    |mk h1 h2 =>
     cases hb:b with
     |true=>exact ⟨_,_,_,fun cx hE hn=>zb9 ho (Ak hd hE hn) hok.1 hok.2.1 hc hb rfl,h1 hb⟩
     |false=>exact ⟨_,_,_,fun cx hE hn=>zab ho (Ak hd hE hn) hok.1 hok.2.2 hc hb rfl,h2 hb⟩
   ·exact False.elim h
  ·exact False.elim h
 ·rename_i op t x y t2 ho
  split at h
  ·rename_i hok
   simp only [aA] at hok
   exact zpq ho hd hok.1 hok.2 h
  ·exact False.elim h
 ·rename_i t x ho
  split at h
  ·rename_i b hx he;exact ⟨_,_,_,fun cx hE hn=>y0s ho (Ak hd hE hn) hx he,h⟩
  ·exact False.elim h
 ·rename_i t x ho
  split at h
  ·rename_i k a hx he;exact ⟨_,_,_,fun cx hE hn=>y0t ho (Ak hd hE hn) hx he rfl,h⟩
  ·exact False.elim h
 ·rename_i T ho
  split at h
  ·rename_i d i hdst hT
   split at h
   ·rename_i hf hz;exact ⟨_,_,_,fun cx hE hn=>zwq ho hdst (Ak hd hE hn) (by rw [hE];exact hT) hf (Gt hz),h⟩
   ·exact False.elim h
  ·exact False.elim h
 ·rename_i T x ho
  split at h
  ·rename_i d hdst
   split at h
   ·rename_i hf hok
    simp only [aA] at hok
    exact ⟨_,_,_,fun cx hE hn=>y0y ho hdst (Ak hd hE hn) hok.1 rfl hok.2 hf,h⟩
   ·exact False.elim h
  ·exact False.elim h
 ·rename_i T x f ho
  split at h
  ·rename_i i hx hT
   split at h
   ·rename_i fs hs
    split at h
    ·rename_i fo fsz ag hf
     split at h
     ·rename_i hz;exact zko ho hd hx hT hs hf (nbne hz) h
     ·exact False.elim h
    ·exact False.elim h
   ·exact False.elim h
  ·exact False.elim h
 ·rename_i T x ho
  split at h
  ·rename_i i hx hT;exact zmx ho hd hx hT h
  ·exact False.elim h
 ·rename_i T x y ho
  split at h
  ·rename_i i hxy hT
   simp only [aA] at hxy
   exact zkn ho hd hxy.1 hxy.2 hT h
  ·exact False.elim h
 ·rename_i T x y ho
  split at h
  ·rename_i i hxy hT
   simp only [aA] at hxy
   split at h
   ·rename_i e sz eb hs
    split at h
    ·rename_i hz;exact zb1 ho hd hxy.1 hxy.2 hT hs (nbne hz) h
    ·exact False.elim h
   ·rename_i len e esz ag hs
    split at h
    ·rename_i hz;exact zco ho hd hxy.1 hxy.2 hT hs (nbne hz) h
    ·exact False.elim h
   ·exact OpX.sound h
  ·exact False.elim h
 ·rename_i T x f ho
  split at h
  ·rename_i i cs hx hT he
   split at h
   ·rename_i fs hs
    split at h
    ·rename_i fo fsz hf
     split at h
     ·rename_i hz hb;exact ⟨_,_,_,fun cx hE hn=>zlm ho (Ak hd hE hn) hx he (by rw [hE];exact hT) hs hf (nbne hz) (aD hb),h⟩
     ·exact False.elim h
    ·rename_i fo fsz hf
     split at h
     ·rename_i av hav;exact ⟨_,_,_,fun cx hE hn=>zll ho (Ak hd hE hn) hx he (by rw [hE];exact hT) hs hf hav,h⟩
     ·exact False.elim h
    ·exact False.elim h
   ·exact False.elim h
  ·exact OpX.sound h
 ·rename_i T x y ho
  split at h
  ·rename_i i cs k n hxy hT he he2
   simp only [aA] at hxy
   split at h
   ·rename_i len e esz ag hs
    split at h
    ·rename_i hz
     cases h with
     |mk m hm1 hm2 h =>
      split at h
      ·split at h
       ·rename_i hb;exact ⟨_,_,_,fun cx hE hn=>zlk ho (Ak hd hE hn) hxy.1 hxy.2 he he2 (by rw [hE];exact hT) hs (nbne hz) hm1 hm2 (aD hb),h⟩
       ·exact False.elim h
      ·split at h
       ·rename_i av hav;exact ⟨_,_,_,fun cx hE hn=>zlj ho (Ak hd hE hn) hxy.1 hxy.2 he he2 (by rw [hE];exact hT) hs (nbne hz) hm1 hm2 hav,h⟩
       ·exact False.elim h
    ·exact False.elim h
   ·exact False.elim h
  ·exact OpX.sound h
 ·rename_i x ix ho
  split at h
  ·rename_i cs hx he
   split at h
   ·rename_i av hav;exact ⟨_,_,_,fun cx hE hn=>zqn ho (Ak hd hE hn) hx he hav,h⟩
   ·exact False.elim h
  ·exact False.elim h
 ·rename_i T ps ho
  split at h
  ·rename_i i hT hok
   split at h
   ·rename_i fs hs hz
    split at h
    ·rename_i cs hfs hf;exact ⟨_,_,_,fun cx hE hn=>zf9 ho (Ak hd hE hn) (by rw [hE];exact hT) hs (Gt hz) hok hfs hf,h⟩
    ·exact False.elim h
   ·rename_i n e esz ag hs hz
    split at h
    ·rename_i cs hz0 hf;exact ⟨_,_,_,fun cx hE hn=>zlq ho (Ak hd hE hn) (by rw [hE];exact hT) hs (Gt hz) hok (nbne hz0) hf,h⟩
    ·exact False.elim h
   ·exact False.elim h
  ·exact False.elim h
 ·rename_i T n ps ho
  split at h
  ·rename_i i hT hok
   split at h
   ·rename_i e esz eb hs
    split at h
    ·rename_i ie he
     split at h
     ·rename_i d hps hdst
      split at h
      ·rename_i hf hz
       have hps:ps=#[]:=by cases ps;simp at hps;subst hps;rfl
       exact ⟨_,_,_,fun cx hE hn=>zfa ho hdst (Ak hd hE hn) (by rw [hE];exact hT) hs (by rw [hE];exact he) (nbne hz) hps hf,h⟩
      ·exact False.elim h
     ·split at h
      ·exact OpX.sound h
      ·split at h
       ·rename_i fl hf
        split at h
        ·rename_i hb
         simp only [aA,aE,Bool.or_eq_true] at hb
         obtain ⟨b1,b2,b3,b4,b5,b6⟩:=hb
         rw [Oi] at h
         have hlen:=z6v _ _ _ _ hf
         rw [length_replicate] at hlen
         obtain ⟨c1,c2,c3⟩:=zcl ie.shape.agg esz _ fl hlen (b6.imp id (fun ⟨h1,h2⟩=>⟨nbeq h1,h2⟩))
         exact ⟨_,_,_,fun cx hE hn=>zhy ho (Ak hd hE hn) (by rw [hE];exact hT) hs (by rw [hE];exact he) (nbne b1) b2 (Gt b3) b4 hok b5 c2 (by simp only [all_eq_true];intro x hx;rw [c3 x hx];simp) (by rw [c1];exact hf),h⟩
        ·exact OpX.sound h
       ·exact False.elim h
    ·exact False.elim h
   ·exact False.elim h
  ·exact False.elim h
 ·rename_i T x y ho
  split at h
  ·rename_i d i hdst hT
   split at h
   ·rename_i e esz eb hs hf
    split at h
    ·rename_i ie k n k' n' hie hok he he2
     simp only [aA] at hok
     split at h
     ·rename_i hb
      simp only [aA,aE] at hb
      cases h with
      |mk hdr0 h =>
      cases h with
      |mk hnn h =>
       rw [Ob] at h
       have h2:forced _ _:=h
       rw [Ux] at h2
       clear h
       cases h2 with
       |mk m hm h1 h2 zs hz h =>
        subst hnn
        exact ⟨_,_,_,fun cx hE hn=>Ag.weak (.cons _ (.row _ _ hz) .nil) (zlg ho hdst (Ak hd hE hn) hok.1 hok.2 he he2 (by rw [hE];exact hT) hs (by rw [hE];exact hie) (nbne hb.1) hb.2.1 (Gt hb.2.2) hf hm h1 h2 (by rw [hE];exact hdr0)),h⟩
     ·exact False.elim h
    ·exact False.elim h
   ·exact False.elim h
  ·exact False.elim h
 ·rename_i T ho
  split at h
  ·exact OpX.sound h
  ·split at h
   ·rename_i d hdst
    split at h
    ·rename_i hf;exact ⟨_,_,_,fun cx hE hn=>zqj ho hdst (Ak hd hE hn) hf,h⟩
    ·exact False.elim h
   ·exact False.elim h
 ·rename_i T x y ok ho
  exact zgv ho hd h
 ·rename_i T x y z ho
  exact z9d (aH ho) hd h
 ·rename_i T x y z ho
  exact z9d (aO ho) hd h
 ·rename_i T x lo hi ho
  split at h
  ·rename_i i sz xs hok hT he
   simp only [aA] at hok
   split at h
   ·rename_i e sz' eb hs
    split at h
    ·rename_i l hh hb h1 h2
     simp only [aA,aE] at hb
     have hq:=nbeq hb.1
     subst hq
     cases h with
     |mk l' h' e1 e2 h3 h4 zs hz h =>
      subst e1
      subst e2
      subst hz
      exact ⟨_,_,_,fun cx hE hn=>zos (esz:=0) ho (Ak hd hE hn) hok.1 hok.2.1 hok.2.2 he (by rw [hE];exact hT) hs (nbne hb.2) h1 h2 h3 h4,h⟩
    ·exact False.elim h
   ·exact False.elim h
  ·rename_i i hok hT he
   simp only [aA] at hok
   split at h
   ·rename_i e sz eb hs
    split at h
    ·rename_i l hh hz h1 h2
     cases h with
     |mk e1 h =>
      cases h with
      |mk e2 h =>
       subst e1
       subst e2
       exact ⟨_,_,_,fun cx hE hn=>zhw ho (Ak hd hE hn) hok.1 hok.2.1 hok.2.2 he (by rw [hE];exact hT) hs (nbne hz) h1 h2,h⟩
    ·exact False.elim h
   ·exact False.elim h
  ·rename_i i id hok hT he
   simp only [aA] at hok
   split at h
   ·exact OpX.sound h
   ·split at h
    ·rename_i e' sz' eb e sz xs d hs hf hdst
     split at h
     ·rename_i l hh hb hn0 h1 h2
      simp only [aA,aE] at hb
      have hq:=nbeq hb.1
      subst hq
      cases h with
      |mk e1 h =>
       subst e1
       cases h with
       |mk l' h' q1 q2 h3 h4 zs hz h =>
        have q1:l'=0:=by omega
        subst q1
        subst q2
        rw [drop_zero] at hz
        subst hz
        exact ⟨_,_,_,fun cx hE hn=>zle ho hdst (Ak hd hE hn) hok.1 hok.2.1 hok.2.2 he (by rw [hE];exact hT) hs (nbne hb.2.1) hf hn0 (nbne hb.2.2) h1 h2 h4,h⟩
     ·exact False.elim h
    ·exact False.elim h
  ·rename_i i s hok hT he
   simp only [aA] at hok
   split at h
   ·rename_i hs
    split at h
    ·rename_i l hh h1 h2
     cases h with
     |mk l' h' e1 e2 h3 h4 h =>
      subst e1
      subst e2
      exact ⟨_,_,_,fun cx hE hn=>zld ho (Ak hd hE hn) hok.1 hok.2.1 hok.2.2 he (by rw [hE];exact hT) hs h1 h2 h3 h4,h⟩
    ·exact False.elim h
   ·exact False.elim h
  ·exact OpX.sound h
 ·rename_i T T' x ho
  split at h
  ·rename_i k n i j hx he hT hT'
   split at h
   ·rename_i k' hs;exact ⟨_,_,_,fun cx hE hn=>zqo ho (Ak hd hE hn) hx he (by rw [hE];exact hT) (by rw [hE];exact hT') hs,h⟩
   ·exact OpX.sound h
  ·exact OpX.sound h
 ·rename_i f first ps ho
  split at h
  ·rename_i hfi hok
   have:first=#[]:=by cases first;simp at hfi;subst hfi;rfl
   subst this
   exact ⟨_,_,_,fun cx hE hn=>zou ho (Ak hd hE hn) hok rfl,h⟩
  ·exact OpX.sound h
 ·rename_i c ho
  obtain ⟨callee,args,tys⟩:=c
  simp only at h
  split at h
  ·exact zdz ho hd h
  ·rename_i x
   split at h
   ·rename_i hb
    simp only [aA] at hb
    exact zmy ho hd hb.1 hb.2 h
   ·exact False.elim h
  ·exact OpX.sound h
 ·exact OpX.sound h
end
variable {α:Type}
def fEnt:Ent->(Ent->α)->α
 |.box ty cs,k=>fL cs fun l=>k (.box ty l)
 |.row ty sz xs,k=>k (.row ty sz xs)
 |.mp ps,k=>k (.mp ps)
 |.nest ty es,k=>k (.nest ty es)
 |.mpn ps,k=>k (.mpn ps)
 |.are ty idx os,k=>k (.are ty idx os)
 |.it ps,k=>k (.it ps)
 |.itp ps,k=>k (.itp ps)
 |.itc p ps,k=>k (.itc p ps)
 |.dead,k=>k .dead
theorem zy7 (e:Ent)(k:Ent->α):fEnt e k=k e:=by cases e<;>simp only [fEnt,Oi]
def eApp:List (Nat×Ent)->List (Nat×Ent)->(List (Nat×Ent)->α)->α
 |[],me,k=>k me
 |(i,e)::r,me,k=>fEnt e fun e'=>eApp r me fun l=>k ((i,e')::l)
theorem zme:∀ (wr me:List (Nat×Ent)) (k:List (Nat×Ent)->α),eApp wr me k=k (wr++me)
 |[],me,k=>rfl
 |(i,e)::r,me,k=>by rw [eApp,zy7,zme];rfl
def upK (σ:AS)(d:Option Nat)(av:AV)(wr:List (Nat×Ent))(k:AS->α):α :=
 fAV av fun av'=>match σ,d with
  |⟨tm,me⟩,some d=>eApp wr me fun me'=>k ⟨(d,av')::tm,me'⟩
  |⟨tm,me⟩,none=>eApp wr me fun me'=>k ⟨tm,me'⟩
theorem zvk (σ:AS)(d:Option Nat)(av:AV)(wr:List (Nat×Ent))(k:AS->α):upK σ d av wr k=k (σ.upd d av wr):=by
 unfold upK
 rw [Ob]
 obtain ⟨tm,me⟩:=σ
 cases d<;>simp only [zme]<;>rfl
def fAS (σ:AS)(k:AS->α):α:=match σ with
 |⟨(d,av)::tm,me⟩=>fAV av fun av'=>eApp me [] fun me'=>k ⟨(d,av')::tm,me'⟩
 |⟨[],me⟩=>k ⟨[],me⟩
theorem zw5 (σ:AS)(k:AS->α):fAS σ k=k σ:=by
 obtain ⟨tm,me⟩:=σ
 cases tm with
 |nil=>rfl
 |cons x tm=>obtain ⟨d,av⟩:=x;simp only [fAS,Ob,zme,append_nil]
theorem zen {t:Nat}{b:Bool}(h:σ.get t=.bool b):Ext (σ.upd (some t) (.bool b) []) σ :=
 ⟨fun u=>by
  rw [aV]
  by_cases hu:t=u
  ·subst hu;rw [if_pos rfl,h]
  ·rw [if_neg (fun e=>hu (by injection e))],fun i=>by rw [AS.find_upd];rfl⟩
inductive Ba
 |code (c:Code)
 |blk (id:Nat)
 |ops (d:Bool) (os:Array Oper) (l:List Oper) (kn:Kn) (trs:List Tr)
inductive Stop
 |fin (e:Exit) (σ:AS)
 |no
 |more (K:List Ba) (e:Exit) (σ:AS)
 |ask (p:OpK->Prop) (dst:Option Nat) (d:Bool) (os:Array Oper) (l:List Oper) (kn:Kn) (trs:List Tr) (K:List Ba) (σ:AS)
 |guard (c:Bool) (t:Nat) (d:Bool) (os:Array Oper) (l:List Oper) (kn:Kn) (trs:List Tr) (K:List Ba) (σ:AS)
 |cond (b:Bool) (x y:Code) (K:List Ba) (σ:AS)
 |loop (c:Code) (K:List Ba) (σ:AS)
 |rng (gv:AV) (ps:Array Tmp) (a b:Code) (K:List Ba) (σ:AS)
 |draw (os:Array Oper) (trs:List Tr) (K:List Ba) (σ:AS)
abbrev Goer:=List Ba->Exit->AS->Stop
def opGo (rec:Goer)(d:Bool)(os:Array Oper)(o:Oper)(l:List Oper)(kn:Kn)(trs:List Tr)(K:List Ba)(σ:AS):D3->Stop
 |.no=>.no
 |.val av ids wr=>upK σ o.dst av wr fun σ'=>rec (.ops d os l (S9 o.dst kn) (⟨av,ids,wr⟩::trs)::K) .normal σ'
 |.ask p=>.ask p o.dst d os l (S9 o.dst kn) trs K σ
def skGo (rec:Goer)(d:Bool)(os:Array Oper)(o:Oper)(l:List Oper)(kn:Kn)(trs:List Tr)(K:List Ba)(σ:AS):Stop :=
 upK σ o.dst (.tup []) [] fun σ'=>rec (.ops d os l (S9 o.dst kn) (⟨.tup [],[],[]⟩::trs)::K) .normal σ'
def zxb (E:Env)(nt:Nat)(rec:Goer)(d:Bool)(os:Array Oper)(kn:Kn)(trs:List Tr)(K:List Ba)(σ:AS):List Oper->Stop
 |[]=>match d with|true=>.draw os trs.reverse K σ|false=>rec K .normal σ
 |o::l=>match o.guard with
  |none=>opGo rec d os o l kn trs K σ (aop E nt kn o σ)
  |some (g,want)=>match dokN E nt o.dst,Bf os g with
   |true,some t=>match lkB kn t,want with
    |some true,true=>opGo rec d os o l kn trs K σ (aop E nt kn o σ)
    |some false,false=>opGo rec d os o l kn trs K σ (aop E nt kn o σ)
    |some true,false=>skGo rec d os o l kn trs K σ
    |some false,true=>skGo rec d os o l kn trs K σ
    |none,_=>match σ.get t with
     |.bool c=>.guard c t d os (o::l) kn trs K σ
     |.tup []=>skGo rec d os o l kn trs K σ
     |_=>.no
   |_,_=>.no
def S4 (ids:List Nat)(rec:Goer)(K:List Ba)(σ:AS):Code->Stop
 |.skip=>rec K .normal σ
 |.ret=>rec K .ret σ
 |.exit id=>rec K (.exit id) σ
 |.seq x y=>rec (.code x::.code y::K) .normal σ
 |.block id c=>rec (.code c::.blk id::K) .normal σ
 |.cond c x y=>match A5 c,σ.eval c with
  |true,.bool b=>.cond b x y K σ
  |_,_=>.no
 |.region id os d=>match memB id ids with
  |true=>.more (.code (.region id os d)::K) .normal σ
  |false=>rec (.ops d os os.toList [] []::K) .normal σ
 |.loop c=>.loop c K σ
 |.rangeFunc g ps a b=>match A5 g with
  |true=>.rng (σ.eval g) ps a b K σ
  |false=>.no
 |_=>.no
def zsn (rec:Goer)(σ:AS)(e:Exit):List Ba->Stop
 |[]=>.fin e σ
 |.blk id::K=>match e with
  |.exit id'=>match aC id' id with|true=>rec K .normal σ|false=>rec K (.exit id') σ
  |e=>rec K e σ
 |.code _::K=>rec K e σ
 |.ops _ _ _ _ _::_=>.no
def zzr (E:Env)(nt:Nat)(ids:List Nat)(rec:Goer)(σ:AS):List Ba->Stop
 |[]=>.fin .normal σ
 |.blk _::K=>rec K .normal σ
 |.code c::K=>S4 ids rec K σ c
 |.ops d os l kn trs::K=>zxb E nt rec d os kn trs K σ l
def go (E:Env)(nt:Nat)(ids:List Nat):Nat->Goer
 |0,K,e,σ=>.more K e σ
 |n+1,K,e,σ=>match e with
  |.normal=>zzr E nt ids (go E nt ids n) σ K
  |e=>zsn (go E nt ids n) σ e K
def KW (cx:Cx)(R:Exit->AS->Prop):List Ba->Exit->AS->Prop
 |[],e,σ=>R e σ
 |.blk id::K,e,σ=>Nz id (KW cx R K) e σ
 |.code c::K,.normal,σ=>WP cx c (KW cx R K) σ
 |.code _::K,e,σ=>KW cx R K e σ
 |.ops d os l kn trs::K,.normal,σ=>KnOk σ kn->∀ i,os.toList.drop i=l->Exec cx os i σ trs fun trs' σ'=>(d=true->Rx os=true/\Sc os trs'=true)/\KW cx R K .normal σ'
 |.ops _ _ _ _ _::_,_,_=>False
structure AW (E:Env) (nt:Nat) (R:Exit->AS->Prop) (K:List Ba) (e:Exit) (σ:AS):Prop where
 out:∀ cx:Cx,cx.E=E->cx.nt=nt->KW cx R K e σ
def E4 (E:Env)(nt:Nat)(R:Exit->AS->Prop):Stop->Prop
 |.fin e σ=>R e σ
 |.no=>False
 |.more K e σ=>AW E nt R K e σ
 |.ask p dst d os l kn trs K σ=>p fun av ids wr=>AW E nt R (.ops d os l kn (⟨av,ids,wr⟩::trs)::K) .normal (σ.upd dst av wr)
 |.guard c t d os l kn trs K σ=>A4 c (AW E nt R (.ops d os l ((t,true)::kn) trs::K) .normal (σ.upd (some t) (.bool true) [])) (AW E nt R (.ops d os l ((t,false)::kn) trs::K) .normal (σ.upd (some t) (.bool false) []))
 |.cond b x y K σ=>A4 b (AW E nt R (.code x::K) .normal σ) (AW E nt R (.code y::K) .normal σ)
 |.loop c K σ=>Av E nt (fun next σ'=>AW E nt (Cu next (AW E nt R K)) [.code c] .normal σ') σ
 |.rng gv ps a b K σ=>RngX E nt gv ps a b σ (fun σ'=>AW E nt R K .normal σ')
 |.draw os trs K σ=>(Rx os=true/\Sc os trs=true)/\AW E nt R K .normal σ
section
variable {E:Env} {nt:Nat} {R:Exit->AS->Prop}
variable {K:List Ba}{e:Exit}
theorem zyc {cx:Cx}{c:Code}(h:KW cx R (.code c::K) e σ):Cu (WP cx c (KW cx R K)) (KW cx R K) e σ:=by cases e<;>exact h
variable {rec:Goer}{d:Bool}{os:Array Oper}
theorem zec (hrec:∀ K e σ,E4 E nt R (rec K e σ)->AW E nt R K e σ){o:Oper}{l:List Oper}{trs:List Tr}(hkn:KnOk σ kn)
  (h:E4 E nt R (opGo rec d os o l kn trs K σ (aop E nt kn o σ))):Dg E nt o σ fun av ids wr=>AW E nt R (.ops d os l (S9 o.dst kn) (⟨av,ids,wr⟩::trs)::K) .normal (σ.upd o.dst av wr):=by
 refine zt2 hkn ?_
 generalize aop E nt kn o σ=r at h
 cases r with
 |no=>exact h
 |val av ids wr=>simp only [opGo,zvk] at h;exact hrec _ _ _ h
 |ask p=>exact h
theorem zm1 (hrec:∀ K e σ,E4 E nt R (rec K e σ)->AW E nt R K e σ){l:List Oper}{trs:List Tr}
  (h:E4 E nt R (zxb E nt rec d os kn trs K σ l)):AW E nt R (.ops d os l kn trs::K) .normal σ:=by
 refine ⟨fun cx hE hn hkn i hl=>?_⟩
 cases l with
 |nil =>
  refine Exec.done (by have:=congrArg length hl;simp at this;omega) ?_
  cases d with
  |true=>exact ⟨fun _=>h.1,h.2.out cx hE hn⟩
  |false=>exact ⟨fun hf=>by simp at hf,(hrec _ _ _ h).out cx hE hn⟩
 |cons o l =>
  have hi:i<os.size:=by
   have:=congrArg length hl
   simp at this
   omega
  have ho:os[i]? = some o:=by
   have h0:(os.toList.drop i)[0]? = some o:=by rw [hl];rfl
   rw [getElem?_drop,Nat.add_zero] at h0
   simpa using h0
  have hrest:os.toList.drop (i+1)=l:=by
   rw [<-drop_drop,hl];rfl
  have hd:Bf os i=o.dst:=by simp [Bf,ho]
  rw [zxb] at h
  split at h
  ·rename_i hg
   obtain ⟨av,ids,wr,hr,hk⟩:=zec hrec hkn h
   exact Exec.op ho hg (hr cx hE hn) (hk.out cx hE hn (hkn.upd _ _ _) (i+1) hrest)
  ·rename_i g want hg
   split at h
   ·rename_i t hok ht
    have hok:dok cx o=true:=Ak hok hE hn
    have run:σ.get t=.bool want->E4 E nt R (opGo rec d os o l kn trs K σ (aop E nt kn o σ))->Exec cx os i σ trs (fun trs' σ'=>(d=true->Rx os=true/\Sc os trs'=true)/\KW cx R K .normal σ'):=fun hgt hk=>by
     obtain ⟨av,ids,wr,hr,hk⟩:=zec hrec hkn hk
     exact Exec.cons hi (Ag.step_guard ho hg ht hgt rfl (hr cx hE hn)) (by rw [hd];exact hk.out cx hE hn (hkn.upd _ _ _) (i+1) hrest)
    have skip:((∃ b,σ.get t=.bool b/\b≠want)\/σ.get t=.tup [])->E4 E nt R (skGo rec d os o l kn trs K σ)->Exec cx os i σ trs (fun trs' σ'=>(d=true->Rx os=true/\Sc os trs'=true)/\KW cx R K .normal σ'):=fun hgt hk=>by
     unfold skGo at hk
     rw [zvk] at hk
     exact Exec.cons hi (za8 ho hok hg ht hgt) (by rw [hd];exact (hrec _ _ _ hk).out cx hE hn (hkn.upd _ _ _) (i+1) hrest)
    split at h
    ·rename_i hk;exact run (hkn _ _ hk) h
    ·rename_i hk;exact run (hkn _ _ hk) h
    ·rename_i hk;exact skip (aH ⟨_,hkn _ _ hk,by simp⟩) h
    ·rename_i hk;exact skip (aH ⟨_,hkn _ _ hk,by simp⟩) h
    ·split at h
     ·rename_i c hc
      cases h with
      |mk h1 h2 =>
       cases hcc:c with
       |true =>
        have hcb:σ.get t=.bool true:=by rw [hc,hcc]
        exact Exec.ext (zen hcb) ((h1 hcc).out cx hE hn (hkn.know t true) i hl)
       |false =>
        have hcb:σ.get t=.bool false:=by rw [hc,hcc]
        exact Exec.ext (zen hcb) ((h2 hcc).out cx hE hn (hkn.know t false) i hl)
     ·rename_i hc;exact skip (aO hc) h
     ·exact False.elim h
   ·exact False.elim h
theorem zjf (hrec:∀ K e σ,E4 E nt R (rec K e σ)->AW E nt R K e σ)(he:e≠.normal)(h:E4 E nt R (zsn rec σ e K)):AW E nt R K e σ:=by
 refine ⟨fun cx hE hn=>?_⟩
 match K with
 |[]=>exact h
 |.code c::K =>
  have h:=(hrec _ _ _ h).out cx hE hn
  cases e<;>first|exact absurd rfl he|exact h
 |.ops _ _ _ _ _::K=>exact False.elim h
 |.blk id::K =>
  cases e with
  |normal=>exact absurd rfl he
  |exit id' =>
   rw [zsn] at h
   split at h
   ·rename_i hb
    have:=nbeq hb
    subst this
    show Nz id' (KW cx R K) (.exit id') σ
    simp only [Nz,if_true]
    exact (hrec _ _ _ h).out cx hE hn
   ·rename_i hb
    show Nz id (KW cx R K) (.exit id') σ
    simp only [Nz]
    rw [if_neg (nbne hb)]
    exact (hrec _ _ _ h).out cx hE hn
  |_=>exact (hrec _ _ _ h).out cx hE hn
theorem zkb (hrec:∀ K e σ,E4 E nt R (rec K e σ)->AW E nt R K e σ){c:Code}{ids:List Nat}(h:E4 E nt R (S4 ids rec K σ c)):AW E nt R (.code c::K) .normal σ:=by
 refine ⟨fun cx hE hn=>?_⟩
 show WP cx c (KW cx R K) σ
 match c with
 |.skip=>exact WP.skip ((hrec _ _ _ h).out cx hE hn)
 |.ret=>exact WP.ret ((hrec _ _ _ h).out cx hE hn)
 |.exit id=>exact WP.exit ((hrec _ _ _ h).out cx hE hn)
 |.seq x y =>
  have h:=(hrec _ _ _ h).out cx hE hn
  exact WP.seq (aX h fun e σ' hk=>zyc hk)
 |.block id c=>exact WP.block ((hrec _ _ _ h).out cx hE hn)
 |.cond c x y =>
  rw [S4] at h
  split at h
  ·rename_i b hok hc
   cases h with
   |mk h1 h2=>exact WP.cond hok hc (fun hb=>(h1 hb).out cx hE hn) (fun hb=>(h2 hb).out cx hE hn)
  ·exact False.elim h
 |.region id os false =>
  rw [S4] at h
  split at h
  ·exact h.out cx hE hn
  obtain ⟨trs,σ',hr,h2,h3⟩:=(hrec _ _ _ h).out cx hE hn (fun t b h=>by simp [lkB] at h) 0 rfl
  exact WP.region ⟨trs,σ',hr,h3⟩
 |.region id os true =>
  rw [S4] at h
  split at h
  ·exact h.out cx hE hn
  obtain ⟨trs,σ',hr,h2,h3⟩:=(hrec _ _ _ h).out cx hE hn (fun t b h=>by simp [lkB] at h) 0 rfl
  exact aW (h2 rfl).1 ⟨trs,σ',hr,(h2 rfl).2,h3⟩
 |.loop c =>
  cases h with
  |mk I n τ hl h0 round =>
   refine WP.loop (fun n σ=>∃ τ,LeX E nt σ τ/\I n τ) n ⟨τ,hl,h0⟩ (fun n σ ⟨τ,hl,hI⟩=>WP.weaken (hl cx hE hn) ?_)
   refine aX ((round n τ hI).out cx hE hn) (fun e σ' hq=>?_)
   cases e with
   |normal=>obtain ⟨m,τ',h1,h2,h3⟩:=hq;exact ⟨m,h2,τ',h1,h3⟩
   |_=>exact hq.out cx hE hn
 |.rangeFunc g ps a b =>
  rw [S4] at h
  split at h
  ·rename_i hgo
   cases h with
   |mk gf cap hgv he hrg hdr0 hyl0 pp pp' ycaps ccaps me me' dead hrc hic hy hle hnm hiter k =>
    subst hE
    subst hn
    exact WP.rangeFunc hrg hdr0 hyl0 hgo hgv he hrc hic hy hle.le hnm hiter (k.out _ rfl rfl)
  ·exact False.elim h
 |.scope c=>exact False.elim h
 |.label l=>exact False.elim h
 |.goto l=>exact False.elim h
 |.refuse w=>exact False.elim h
theorem Rq {ids:List Nat}:∀ (n:Nat) (K:List Ba) (e:Exit) (σ:AS),E4 E nt R (go E nt ids n K e σ)->AW E nt R K e σ
 |0,K,e,σ,h=>h
 |n+1,K,e,σ,h=>by
  unfold go at h
  split at h
  ·match K with
   |[]=>exact ⟨fun cx _ _=>h⟩
   |.blk id::K=>exact ⟨fun cx hE hn=>(Rq n _ _ _ h).out cx hE hn⟩
   |.code c::K=>exact zkb (Rq n) h
   |.ops d os l kn trs::K=>exact zm1 (Rq n) h
  ·rename_i hne
   exact zjf (Rq n) hne h
theorem AW.step (h:E4 E nt R (fAS σ fun σ'=>go E nt [] 1000000 K e σ')):AW E nt R K e σ:=by
 rw [zw5] at h
 exact Rq _ _ _ _ h
theorem AW.stepU (ids:List Nat)(h:E4 E nt R (fAS σ fun σ'=>go E nt ids 1000000 K e σ')):AW E nt R K e σ:=by
 rw [zw5] at h
 exact Rq _ _ _ _ h
theorem AW.into {id:Nat}(h:AW E nt R (.ops d os os.toList [] []::K) .normal σ):AW E nt R (.code (.region id os d)::K) .normal σ:=⟨fun cx hE hn=>by
 obtain ⟨trs,σ',hr,h2,h3⟩:=h.out cx hE hn (fun t b h=>by simp [lkB] at h) 0 rfl
 cases d with
 |false=>exact WP.region ⟨trs,σ',hr,h3⟩
 |true=>exact aW (h2 rfl).1 ⟨trs,σ',hr,(h2 rfl).2,h3⟩⟩
end
variable {E:Env}
theorem Con.walk {fr:Bool}{f:FuncId}{fn:Func}{args:List AV}{res:AV}(c:Code)(hf:E.P.funcs[f]? = some fn)(hb:fn.body=some c)(he:C6 E f)(hn:aJ args.length fn.ntmps=true)(hfr:fr=false\/res.flat=true)
  (h:AW E fn.ntmps (EndA E fn res) [.code c] .normal (F6 args)) (hrg:E.rg=false:=by rfl) (hyl:E.yl=none:=by rfl) (hnp:E.np=0:=by rfl)(hrg:E.rg=false:=by rfl) (hyl:E.yl=none:=by rfl) (hnp:E.np=0:=by rfl):Con E fr f args res :=
 Con.of hf hb he (aD hn) hfr (fun S w=>aX (h.out (Cx.call E S w fn.ntmps) rfl rfl) fun e σ hk=>by cases e<;>exact hk) hrg hyl hnp
variable {ty sz:Nat}
theorem Fu.walk {f:FuncId}{fn:Func}{args xs:List AV}(c:Code)(hf:E.P.funcs[f]? = some fn)(hb:fn.body=some c)(he:C6 E f)(hn:aJ args.length fn.ntmps=true)
  (h:AW E fn.ntmps (EndR fn ty sz xs) [.code c] .normal (F6 args)) (hrg:E.rg=false:=by rfl) (hyl:E.yl=none:=by rfl) (hnp:E.np=0:=by rfl)(hrg:E.rg=false:=by rfl) (hyl:E.yl=none:=by rfl) (hnp:E.np=0:=by rfl):Fu E f args ty sz xs :=
 Fu.of hf hb he (aD hn) (fun S w=>aX (h.out (Cx.call E S w fn.ntmps) rfl rfl) fun e σ hk=>by cases e<;>exact hk) hrg hyl hnp
variable {nt:Nat}
theorem LeX.of {τ:AS}(ps:List (Nat×Nat))(hinj:injB (rho ps) (τ.me.map (·.1))=true)(h1:LeV σ (rho ps) (τ.me.map (·.1)) τ.tm)(h2:LeE σ (rho ps) (τ.me.map (·.1)) τ.me):LeX E nt σ τ:=fun _ _ _=>Le.of ps hinj h1 h2
theorem LeX.refl (E:Env)(nt:Nat)(σ:AS):LeX E nt σ σ:=fun _ _ _=>Le.refl _ _
theorem LeX.trans {a b c:AS}(h:LeX E nt a b)(k:LeX E nt b c):LeX E nt a c:=fun cx hE hn=>(h cx hE hn).trans (k cx hE hn)
theorem Le.adopt_aux {cx:Cx}{γ:Gam}{a:Act}{w:World}(h:StG cx γ σ a w){r ty sz:Nat}(hr:σ.find r=none) :
  (∀ av v,Rep w (Sg cx.S0 cx.w0.heap.size γ) γ av v->Rep w (Sg cx.S0 cx.w0.heap.size (γ.set r (some (none,.slice none 0 0)))) (γ.set r (some (none,.slice none 0 0))) av v) /\
  (∀ i x,γ i=some x->i≠r)/\(∀ b,own (γ.set r (some (none,.slice none 0 0))) b->own γ b):=by
 have hγ:γ r=none:=by have:=h.me r;rw [hr] at this;exact this
 have hne:∀ i x,γ i=some x->i≠r:=fun i x hx e=>by subst e;rw [hγ] at hx;cases hx
 have hown:∀ b,own (γ.set r (some (none,.slice none 0 0))) b->own γ b:=fun b ⟨i,s,hi,hm⟩=>by
  by_cases hir:i=r
  ·subst hir;rw [aF] at hi;injection hi with hi;subst hi;exact (Rp (s:=.slice none 0 0) rfl hm).elim
  ·rw [aG _ _ _ hir] at hi;exact ⟨i,s,hi,hm⟩
 refine ⟨fun av v hv=>(hv.mono (aQ _) (fun b hb _=>⟨rfl,?_⟩)).gam (fun i x hx=>aH ?_),hne,hown⟩
 ·rcases hb with hb|⟨h1,h2⟩
  ·exact aH hb
  ·exact aO ⟨h1,fun ho=>h2 (hown b ho)⟩
 ·rw [aG _ _ _ (hne i x hx)];exact hx
theorem zrf {w:World}{S:Nat->Prop}{γ:Gam}{B:Nat}:B6 w S γ B (some (none,.slice none 0 0)) (.row ty sz []) :=
 ⟨.slice none 0 0,[],rfl,rfl,World.ownsRow_nil w _ _ _,fun k hk=>absurd hk (by simp),fun k hk=>absurd hk (by simp),fun u hu=>absurd hu (by simp)⟩
def AS.adopt (σ:AS)(t r ty sz:Nat):AS:=⟨(t,.row r)::σ.tm,(r,.row ty sz [])::σ.me⟩
theorem LeX.adopt (t r ty sz:Nat)(ht:σ.get t=.nils)(hr:σ.find r=none):LeX E nt σ (σ.adopt t r ty sz):=fun cx hE hn a w ⟨γ,h⟩=>by
 obtain ⟨k1,k2,k3⟩:=Le.adopt_aux (ty:=ty) (sz:=sz) h hr
 refine ⟨γ.set r (some (none,.slice none 0 0)),fun u=>?_,fun i=>?_,fun i j b s s' hi hj mi mj=>?_,fun b hb=>h.ge b (k3 b hb),h.below,h.size,h.defers.gam (fun b hb=>k3 b hb),h.gh,fun b hb=>by obtain ⟨f2,f3,f4⟩:=h.fr b hb;exact ⟨fun ho=>f2 (k3 b ho),f3,f4⟩,h.dr⟩
 ·by_cases hu:t=u
  ·subst hu
   have e:(σ.adopt t r ty sz).get t=.row r:=by simp [AS.adopt,AS.get,lkV]
   rw [e]
   have:=h.tm t
   rw [ht] at this
   rw [this.nils_inv]
   exact .row (aF _ _ _) (fun g s e _=>by injection e with e;injection e with _ e)
  ·have e:(σ.adopt t r ty sz).get u=σ.get u:=by
    unfold AS.adopt AS.get
    simp only [lkV]
    cases hb:aC t u with
    |true=>exact absurd (aB hb) hu
    |false=>rfl
   rw [e]
   exact k1 _ _ (h.tm u)
 ·by_cases hi:r=i
  ·subst hi
   have e:(σ.adopt t r ty sz).find r=some (.row ty sz []):=by simp [AS.adopt,aT,lkE]
   rw [e]
   exact ⟨_,aF _ _ _,zrf⟩
  ·have e:(σ.adopt t r ty sz).find i=σ.find i:=by
    unfold AS.adopt aT
    simp only [lkE]
    cases hb:aC r i with
    |true=>exact absurd (aB hb) hi
    |false=>rfl
   rw [e,aG _ _ _ (Ne.symm hi)]
   have:=h.me i
   cases hf:σ.find i with
   |none=>rw [hf] at this;exact this
   |some en =>
    rw [hf] at this
    obtain ⟨x,hx,he⟩:=this
    refine ⟨x,hx,he.move (aQ _) (fun b hb _=>⟨rfl,?_⟩) (fun i x hx=>aH (by rw [aG _ _ _ (k2 i x hx)];exact hx)) (fun _ _=>rfl)⟩
    rcases hb with hb|⟨h1,h2⟩
    ·exact aH hb
    ·exact aO ⟨h1,fun ho=>h2 (k3 b ho)⟩
 ·have hir:i≠r:=fun e=>by subst e;rw [aF] at hi;injection hi with hi;subst hi;exact Rp (s:=.slice none 0 0) rfl mi
  have hjr:j≠r:=fun e=>by subst e;rw [aF] at hj;injection hj with hj;subst hj;exact Rp (s:=.slice none 0 0) rfl mj
  rw [aG _ _ _ hir] at hi
  rw [aG _ _ _ hjr] at hj
  exact h.inj i j b s s' hi hj mi mj
def AS.adoptC (σ:AS)(id j r ty sz bt:Nat)(cs:List AV):AS:=⟨σ.tm,(id,.box bt (cs.set j (.row r)))::(r,.row ty sz [])::σ.me⟩
theorem LeX.adoptC (id j r ty sz bt:Nat)(cs:List AV)(hid:σ.find id=some (.box bt cs))(hj:cs[j]? = some .nils)(hr:σ.find r=none):LeX E nt σ (σ.adoptC id j r ty sz bt cs):=fun cx hE hn a w ⟨γ,h⟩=>by
 obtain ⟨k1,k2,k3⟩:=Le.adopt_aux (ty:=ty) (sz:=sz) h hr
 have hne:id≠r:=fun e=>by subst e;rw [hr] at hid;cases hid
 have hS:∀ b,Sg cx.S0 cx.w0.heap.size γ b->Sg cx.S0 cx.w0.heap.size (γ.set r (some (none,.slice none 0 0))) b:=fun b hb=>hb.elim aH (fun ⟨h1,h2⟩=>aO ⟨h1,fun ho=>h2 (k3 b ho)⟩)
 refine ⟨γ.set r (some (none,.slice none 0 0)),fun u=>k1 _ _ (h.tm u),fun i=>?_,fun i j b s s' hi hj mi mj=>?_,fun b hb=>h.ge b (k3 b hb),h.below,h.size,h.defers.gam (fun b hb=>k3 b hb),h.gh,fun b hb=>by obtain ⟨f2,f3,f4⟩:=h.fr b hb;exact ⟨fun ho=>f2 (k3 b ho),f3,f4⟩,h.dr⟩
 ·by_cases hi:id=i
  ·subst hi
   have e:(σ.adoptC id j r ty sz bt cs).find id=some (.box bt (cs.set j (.row r))):=by simp [AS.adoptC,aT,lkE]
   rw [e]
   have hm:=h.me id
   rw [hid] at hm
   obtain ⟨x,hx,g,vs,hd,hb,hsz,hrr,hone⟩:=hm
   refine ⟨x,by rw [aG _ _ _ hne];exact hx,g,vs,hd,hb,by simpa using hsz,fun m hm=>?_,hone⟩
   have hm':m<cs.length:=by simpa using hm
   rw [getElem_set]
   by_cases hjm:j=m
   ·subst hjm
    rw [if_pos rfl]
    have:=hrr j hm'
    rw [(List.getElem?_eq_some_iff.1 hj).2] at this
    rw [this.nils_inv]
    exact .row (aF _ _ _) (fun g s e _=>by injection e with e;injection e with _ e)
   ·rw [if_neg hjm]
    exact k1 _ _ (hrr m hm')
  ·by_cases hi2:r=i
   ·subst hi2
    have e:(σ.adoptC id j r ty sz bt cs).find r=some (.row ty sz []):=by
     unfold AS.adoptC aT
     simp only [lkE]
     cases hb:aC id r with
     |true=>exact absurd (aB hb) hi
     |false=>simp
    rw [e]
    exact ⟨_,aF _ _ _,zrf⟩
   ·have e:(σ.adoptC id j r ty sz bt cs).find i=σ.find i:=by
     unfold AS.adoptC aT
     simp only [lkE]
     cases hb:aC id i with
     |true=>exact absurd (aB hb) hi
     |false =>
      cases hb2:aC r i with
      |true=>exact absurd (aB hb2) hi2
      |false=>rfl
    rw [e,aG _ _ _ (Ne.symm hi2)]
    have:=h.me i
    cases hf:σ.find i with
    |none=>rw [hf] at this;exact this
    |some en =>
     rw [hf] at this
     obtain ⟨x,hx,he⟩:=this
     exact ⟨x,hx,he.move (aQ _) (fun b hb _=>⟨rfl,hS b hb⟩) (fun i x hx=>aH (by rw [aG _ _ _ (k2 i x hx)];exact hx)) (fun _ _=>rfl)⟩
 ·have hir:i≠r:=fun e=>by subst e;rw [aF] at hi;injection hi with hi;subst hi;exact Rp (s:=.slice none 0 0) rfl mi
  have hjr:j≠r:=fun e=>by subst e;rw [aF] at hj;injection hj with hj;subst hj;exact Rp (s:=.slice none 0 0) rfl mj
  rw [aG _ _ _ hir] at hi
  rw [aG _ _ _ hjr] at hj
  exact h.inj i j b s s' hi hj mi mj
end Go.Proofs.YthbogefcfhmpgaaGreat
