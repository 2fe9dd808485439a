/- The abstract walk, twelfth part. -/
import Derived.Test.YtkoamfnbbhfaiaaGreatDoorK06
set_option linter.unusedVariables false
set_option linter.unusedSimpArgs false
namespace Go.Proofs.YtkoamfnbbhfaiaaGreatDoor
open Go.RowKit List
open Bool renaming and_eq_true->aA,not_eq_true'->aE
open Nat renaming eq_of_beq_eq_true->aB,beq->aC,le_of_ble_eq_true->aD,ble->aJ,ne_of_beq_eq_false->aK,succ_mul->aP,le_refl->aQ
open Gam renaming set_self->aF,set_ne->aG
open Or renaming inl->aH,inr->aO
open AV renaming cells->aL,renL->aM,inML->aN,closedL->aU
open AS renaming find->aT,get_upd->aV
open WP renaming region_draw->aW,mono->aX
inductive Ac (b:Bool) (p q:Prop):Prop
 |mk (h1:b=true->p) (h2:b=false->q)
theorem Ac.t {p q:Prop}(k:p):Ac true p q:=⟨fun _=>k,fun h=>absurd h (by simp)⟩
theorem Ac.f {p q:Prop}(k:q):Ac false p q:=⟨fun h=>absurd h (by simp),fun _=>k⟩
inductive IdxX (xs:List AV) (n:Int) (K:AV->Prop):Prop
 |mk (m:Nat) (el:AV) (hn:n=(m:Int)) (he:xs[m]? = some el) (k:K el)
inductive NatX (n:Int) (len:Nat) (K:Nat->Prop):Prop
 |mk (m:Nat) (hn:n=(m:Int)) (hm:m<len) (k:K m)
inductive LtX (m len:Nat) (K:Prop):Prop
 |mk (hm:m<len) (k:K)
inductive EltX (xs:List AV) (m:Nat) (K:AV->Prop):Prop
 |mk (el:AV) (he:xs[m]? = some el) (k:K el)
inductive SlcX (len:Nat) (lo hi:Int) (K:Nat->Nat->Prop):Prop
 |mk (l h:Nat) (h1:lo=(l:Int)) (h2:hi=(h:Int)) (h3:l<=h) (h4:h<=len) (k:K l h)
inductive SlsX (xs:List AV) (lo hi:Int) (K:List AV->Prop):Prop
 |mk (l h:Nat) (h1:lo=(l:Int)) (h2:hi=(h:Int)) (h3:l<=h) (h4:h<=xs.length) (zs:List AV) (hz:(xs.take h).drop l=zs) (k:K zs)
inductive SetX (xs:List AV) (m j n:Nat) (av:AV) (ok:AV->Bool) (put:AV->AV) (K:List AV->Prop):Prop
 |mk (el:AV) (he:xs[m]? = some el) (hok:ok el=true) (zs:List AV) (hz:SubR (xs.set m (put el)) zs) (k:K zs)
inductive MakX (n:Int) (bytes:Nat) (z:AV) (K:List AV->Prop):Prop
 |mk (m:Nat) (hn:n=(m:Int)) (h1:m<=1099511627776) (h2:bytes*m<=281474976710656) (zs:List AV) (hz:SubR (replicate m z) zs) (k:K zs)
inductive AppX (n bytes:Nat) (zs:List AV) (K:List AV->Prop):Prop
 |mk (h1:n<=1099511627776) (h2:n*bytes<=140737488355328) (k:K zs)
 |sub (zs':List AV) (hz:SubR zs zs') (h1:n<=1099511627776) (h2:n*bytes<=140737488355328) (k:K zs')
theorem AppX.elim {n bytes:Nat}{b:List AV}{K:List AV->Prop}(h:AppX n bytes b K):n<=1099511627776/\n*bytes<=140737488355328/\∃ a,SubR b a/\K a:=by
 cases h with
 |mk h1 c k=>exact ⟨h1,c,b,.refl _,k⟩
 |sub a f h1 c k=>exact ⟨h1,c,a,f,k⟩
inductive NzX (b:Int) (K:Prop):Prop
 |mk (h:b≠0) (k:K)
inductive Ag (E:Env) (f:FuncId) (avs:List AV) (K:AV->Prop) (R:Nat->Nat->List AV->AV->Prop) (find:Nat->Option Ent) (KR:AV->List Nat->List (Nat×Ent)->Prop):Prop
 |memo (ps ps':List (Nat×Nat)) (cargs:List AV) (me me':List (Nat×Ent)) (res:AV) (dead:List Nat) (he:Bh E f) (hdr0:E.dr=false) (h:ConG E.P E.yl (CalF E.P f 0) cargs [] me res me') (hra:aM (rho ps) cargs=avs) (hia:aN (me.map (·.1)) cargs=true) (hle:LeF find (rho ps) (me.map (·.1)) me) (hn:Dc find (rho ps) (rho ps') me me' res dead) (k:KR (res.ren (rho ps')) (idsG (rho ps) (rho ps') me me') (wrG (rho ps') me' dead))
 |mk (fr:Bool) (res:AV) (h:Con E fr f avs res) (k:K res)
 |row (ty sz:Nat) (xs:List AV) (hdr0:E.dr=false) (h:E4 E f avs ty sz xs) (k:R ty sz xs (.row 0))
 |rowT (ty sz:Nat) (xs:List AV) (res:AV) (hdr0:E.dr=false) (h:ConT E f avs ty sz xs res) (k:R ty sz xs res)
inductive YldX (E:Env) (l:Nat) (T:Array Value) (raw cap:List AV) (find:Nat->Option Ent) (KR:AV->List Nat->List (Nat×Ent)->Prop):Prop
 |mk (ps ps':List (Nat×Nat)) (cargs ccaps:List AV) (me me':List (Nat×Ent)) (res:AV) (dead:List Nat) (hdr0:E.dr=false) (h:ConG E.P E.yl (fun vs cs w R=>cs=T->CalY E.P l vs cs w R) cargs ccaps me res me') (hra:aM (rho ps) cargs=raw) (hrc:aM (rho ps) ccaps=cap) (hia:aN (me.map (·.1)) cargs=true) (hic:aN (me.map (·.1)) ccaps=true) (hle:LeF find (rho ps) (me.map (·.1)) me) (hn:Dc find (rho ps) (rho ps') me me' res dead) (k:KR (res.ren (rho ps')) (idsG (rho ps) (rho ps') me me') (wrG (rho ps') me' dead))
inductive RngX (E:Env) (nt:Nat) (gv:AV) (ps:Array Tmp) (a b:Code) (σ:AS) (K:AS->Prop):Prop
 |mk (gf:Nat) (cap:List AV) (hgv:gv=.fn gf cap) (he:Bh E gf) (hrg:E.rg=true) (hdr0:E.dr=false) (hyl0:E.yl=none) (pp pp':List (Nat×Nat)) (ycaps ccaps:List AV) (me me':List (Nat×Ent)) (dead:List Nat) (hrc:aM (rho pp) ccaps=cap) (hic:aN (me.map (·.1)) ccaps=true) (hy:LeY σ (rho pp) (me.map (·.1)) 0 ycaps) (hle:LeF σ.find (rho pp) (me.map (·.1)) me) (hn:Dc σ.find (rho pp) (rho pp') me me' (.tup []) dead)
  (hiter:∀ (l D:Nat) (fn:FuncId) (T:Array Value),T.size=nt->ConG E.P (some (l,.loop (recR fn T ps a b D))) (CalF E.P gf 0) (.yld l T ycaps::ccaps) [] me (.tup []) me') (k:K (σ.upd none (.tup []) (wrG (rho pp') me' dead)))
inductive LkX (P:Program) (kt:Nat) (k:AV) (ps:List (AV×AV)) (z:AV) (K:AV->Bool->Prop):Prop
 |mk (r:Option Nat) (av:AV) (b:Bool) (hk:Bp P kt k=true) (hf:Bq k (ps.map (·.1)) 0=some r) (hb:r.isSome=b) (hs:Sub (Ey z ps r) av) (c:K av b)
inductive UpX (P:Program) (kt:Nat) (k x:AV) (ps:List (AV×AV)) (K:List (AV×AV)->Prop):Prop
 |mk (r:Option Nat) (qs:List (AV×AV)) (hk:Bp P kt k=true) (hf:Bq k (ps.map (·.1)) 0=some r) (hs:SubM (putK r k x ps) qs) (c:K qs)
inductive PosX (n:Int) (K:Prop):Prop
 |mk (h:0<n) (k:K)
inductive ShX (b:Int) (K:Prop):Prop
 |mk (h:0<=b) (k:K)
inductive EqX (p:Prop) (K:Prop):Prop
 |mk (h:p) (k:K)
inductive Be (E:Env) (f:FuncId) (avs:List AV) (K:AV->Prop) (raw:List AV) (find:Nat->Option Ent) (dst:Option Nat) (KR:AV->List Nat->List (Nat×Ent)->Prop):Prop
 |mk (fr:Bool) (res:AV) (h:Con E fr f avs res) (hf:fr=true\/res.flat=true) (k:K res)
 |take (id d ty sz:Nat) (xs:List AV) (ty' sz':Nat) (xs':List AV) (res:AV) (cargs:List AV) (hdr0:E.dr=false) (h:ConC false E f cargs ty sz xs ty' sz' xs' res) (hr:aM (fun _=>id) cargs=raw) (hin:aN [0] cargs=true) (hl:find id=some (.row ty sz xs)) (hd:dst=some d) (hn:find d=none) (hne:id≠d) (k:KR (res.ren fun _=>d) [d,id] [(d,.row ty' sz' xs'),(id,.dead)])
 |eat (id ty sz:Nat) (xs avs':List AV) (fr:Bool) (res:AV) (hl:find id=some (.row ty sz xs)) (ha:AV.frzL id sz xs raw=avs') (hcl:aU avs'=true) (h:Con E fr f avs' res) (k:KR res [id] [(id,.dead)])
 |memo (ps ps':List (Nat×Nat)) (cargs:List AV) (me me':List (Nat×Ent)) (res:AV) (dead:List Nat) (he:Bh E f) (hdr0:E.dr=false) (h:ConG E.P E.yl (CalF E.P f 0) cargs [] me res me') (hra:aM (rho ps) cargs=raw) (hia:aN (me.map (·.1)) cargs=true) (hle:LeF find (rho ps) (me.map (·.1)) me) (hn:Dc find (rho ps) (rho ps') me me' res dead) (k:KR (res.ren (rho ps')) (idsG (rho ps) (rho ps') me me') (wrG (rho ps') me' dead))
 |turn (id ty sz:Nat) (xs xs':List AV) (res:AV) (cargs:List AV) (hdr0:E.dr=false) (h:ConC true E f cargs ty sz xs ty sz xs' res) (hr:aM (fun _=>id) cargs=raw) (hin:aN [0] cargs=true) (hl:find id=some (.row ty sz xs)) (k:KR (res.ren fun _=>id) [id] [(id,.row ty sz xs')])
def Yo (E:Env)(nt:Nat)(o:Oper)(σ:AS)(av:AV)(ids:List Nat)(wr:List (Nat×Ent)):Prop:=∀ cx:Cx,cx.E=E->cx.nt=nt->A9 cx o σ av ids wr
inductive OpX (E:Env) (nt:Nat) (o:Oper) (σ:AS) (K:AV->List Nat->List (Nat×Ent)->Prop):Prop
 |mk (av:AV) (ids:List Nat) (wr:List (Nat×Ent)) (h:Yo E nt o σ av ids wr) (k:K av ids wr)
def LeX (E:Env)(nt:Nat)(σ τ:AS):Prop:=∀ cx:Cx,cx.E=E->cx.nt=nt->cx.ev=false->Le cx σ τ
inductive B5 (E:Env) (nt:Nat) (F:(AS->Prop)->AS->Prop) (σ:AS):Prop
 |mk (I:Nat->AS->Prop) (n:Nat) (τ:AS) (hl:LeX E nt σ τ) (h0:I n τ) (round:∀ n σ,I n σ->F (fun σ'=>∃ m τ,LeX E nt σ' τ/\m<n/\I m τ) σ)
def dokN (E:Env)(nt:Nat)(d:Option Nat):Bool:=match d with|some d=>aJ E.np d && Nat.blt d nt|none=>true
def Ew (agg:Bool)(sz n:Nat)(l:List AV):List AV :=
 (range n).map fun k=>match agg with|true=>.agg ((l.drop (k*sz)).take sz)|false=>(l[k]?).getD .any
def V0:AV->Bool |.agg _=>false |_=>true
abbrev OpK:=AV->List Nat->List (Nat×Ent)->Prop
inductive Dk
 |no
 |val (av:AV) (ids:List Nat) (wr:List (Nat×Ent))
 |ask (p:OpK->Prop)
@[reducible] def Dk.run (r:Dk)(K:OpK):Prop:=match r with
 |.no=>False
 |.val av ids wr=>K av ids wr
 |.ask p=>p K
def zws (E:Env)(nt:Nat)(o:Oper)(σ:AS)(i:TyI):AV->Dk
 |.ptr id off=>match σ.find id with
  |some (.box _ cs)=>match i.shape.agg with
   |true=>match aJ (off+i.sz) cs.length with
    |true=>.val (.agg ((cs.drop off).take i.sz)) [id] []
    |false=>.no
   |false=>match cs[off]? with
    |some av=>.val av [id] []
    |none=>.no
  |_=>.no
 |.elt id sz k j=>match σ.find id with
  |some (.row _ a xs)=>match aC a sz with
   |true=>.ask (fun K=>EltX xs k fun el=>match i.shape.agg with
    |true=>match aC i.sz sz && aC j 0 with
     |true=>K (.agg el.cells) [id] []
     |false=>match aJ (j+i.sz) sz with
      |true=>K (.agg ((el.cells.drop j).take i.sz)) [id] []
      |false=>False
    |false=>match el.cells[j]? with
     |some av=>K av [id] []
     |none=>False)
   |false=>.no
  |_=>.no
 |.ref cs=>match i.shape.agg with
  |true=>match aJ i.sz cs.length with
   |true=>.val (.agg (cs.take i.sz)) [] []
   |false=>.no
  |false=>match cs with
   |av::_=>.val av [] []
   |[]=>.no
 |_=>.ask (fun K=>OpX E nt o σ K)
def Yi:AV->Nat->Nat->AV->AV |.agg cs,j,n,av=>.agg (cs.take j++av.cells++cs.drop (j+n)) |_,_,_,av=>av
def elOk:AV->Nat->Nat->Bool |.agg _,_,_=>true |_,j,n=>aC j 0 && aC n 1
theorem z9g {el av:AV}{j n:Nat}(h:elOk el j n=true):(Yi el j n av).cells=el.cells.take j++av.cells++el.cells.drop (j+n):=by
 cases el with
 |agg cs=>rfl
 |_ =>
  simp only [elOk,aA] at h;have h1:=aB h.1;have a:=aB h.2;subst h1;subst a;simp [Yi,aL]
def zr6 (E:Env)(nt:Nat)(o:Oper)(σ:AS)(i:TyI)(av:AV):AV->Dk
 |.ptr id off=>match σ.find id with
  |some (.box ty cs)=>match aJ (off+i.sz) cs.length && (aC av.cells.length i.sz && okc σ av) with
   |true=>.val (.tup []) (id::av.ids) [(id,.box ty (cs.take off++av.cells++cs.drop (off+i.sz)))]
   |false=>.no
  |_=>.no
 |.elt id sz k j=>match σ.find id with
  |some (.row ty a xs)=>match aC a sz && (aC av.cells.length i.sz && (aJ (j+i.sz) sz && (okc σ av && av.closed))) with
   |true=>.ask (fun K=>SetX xs k j i.sz av (fun el=>elOk el j i.sz) (fun el=>Yi el j i.sz av) fun b=>K (.tup []) (id::av.ids) [(id,.row ty sz b)])
   |false=>.ask (fun K=>OpX E nt o σ K)
  |_=>.no
 |_=>.ask (fun K=>OpX E nt o σ K)
def zr7 (E:Env)(nt:Nat)(o:Oper)(σ:AS)(fo:Nat):AV->Dk
 |.ptr id off=>match σ.find id with
  |some (.box _ _)=>.val (.ptr id (off+fo)) [id] []
  |_=>.no
 |.elt id sz k j=>match σ.find id with
  |some (.row _ a xs)=>match aC a sz with
   |true=>.ask (fun K=>LtX k xs.length (K (.elt id sz k (j+fo)) [id] []))
   |false=>.no
  |_=>.no
 |.ref cs=>.val (.ref (cs.drop fo)) [] []
 |_=>.ask (fun K=>OpX E nt o σ K)
def Zn (E:Env)(nt:Nat)(o:Oper)(σ:AS)(sz:Nat)(x y:AV):Dk :=
 match x,y with
 |.sl a xs,.int _ n=>match aC a sz with
  |true=>.ask (fun K=>IdxX xs n fun el=>K (.ref el.cells) [] [])
  |false=>.no
 |.row id,.int _ n=>match σ.find id with
  |some (.row _ a xs)=>match aC a sz with
   |true=>.ask (fun K=>NatX n xs.length fun m=>K (.elt id sz m 0) [id] [])
   |false=>.no
  |_=>.no
 |_,_=>.ask (fun K=>OpX E nt o σ K)
def zaa (E:Env)(nt:Nat)(o:Oper)(σ:AS)(len esz:Nat)(x y:AV):Dk :=
 match x,y with
 |.ptr id off,.int _ n=>match σ.find id with
  |some (.box _ _)=>.ask (fun K=>NatX n len fun m=>K (.ptr id (off+m*esz)) [id] [])
  |_=>.no
 |_,_=>.ask (fun K=>OpX E nt o σ K)
def aBin (E:Env)(nt:Nat)(o:Oper)(σ:AS)(op:BinOp)(t:Nat)(x y:AV):Dk :=
 match x,y with
 |.int k a,.int f b=>match shI op k a b with
  |some av=>.ask (fun K=>ShX b (K av [] []))
  |none=>match decide (k=f) with
   |true=>match op with
    |.quo=>.ask (fun K=>NzX b (K (.int k (k.wrap (a.tdiv b))) [] []))
    |.rem=>.ask (fun K=>NzX b (K (.int k (a.tmod b)) [] []))
    |op=>match binI op k a b with
     |some av=>.val av [] []
     |none=>match bitI op k a b with
      |some av=>.val av [] []
      |none=>.ask (fun K=>OpX E nt o σ K)
   |false=>.no
 |.bool a,.bool b=>match lkT E.tab t with
  |some i=>match i.shape,op with
   |.bool,.eql=>.val (.bool (a == b)) [] []
   |.bool,.neq=>.val (.bool (!(a == b))) [] []
   |_,_=>.ask (fun K=>OpX E nt o σ K)
  |none=>.ask (fun K=>OpX E nt o σ K)
 |.str a,.str b=>match binS op a b with
  |some c=>.val (.bool c) [] []
  |none=>.ask (fun K=>OpX E nt o σ K)
 |.agg cs,.agg ds=>match op,eqL cs ds with
  |.eql,some c=>.ask (fun K=>EqX (V2 E.P t cs=true) (K (.bool c) [] []))
  |.neq,some c=>.ask (fun K=>EqX (V2 E.P t cs=true) (K (.bool (!c)) [] []))
  |_,_=>.ask (fun K=>OpX E nt o σ K)
 |_,_=>.ask (fun K=>OpX E nt o σ K)
def zwt (E:Env)(nt:Nat)(o:Oper)(σ:AS)(args:Array Operand):AV->Dk
 |.fn f cap=>match aU (Bw σ args cap) with
  |true=>.ask (fun K=>Ag E f (Bw σ args cap) (fun res=>K res [] []) (fun ty sz xs res=>match o.dst with
   |some d=>match σ.find d with
    |none=>K (res.ren fun _=>d) [d] [(d,.row ty sz xs)]
    |some _=>False
   |none=>False) σ.find K)
  |false=>.ask (fun K=>Be E f ((Bw σ args cap).map (Mq σ)) (fun res=>K res ((Bw σ args cap).flatMap (ids2 σ)) []) (Bw σ args cap) σ.find o.dst K)
 |.yld l T cap=>.ask (fun K=>YldX E l T (args.toList.map σ.eval) cap σ.find K)
 |_=>.ask (fun K=>OpX E nt o σ K)
def aLen (E:Env)(nt:Nat)(o:Oper)(σ:AS)(i:TyI):AV->Dk
 |.sl _ xs=>match i.shape with|.slc _ _ _=>.val (.int .i64 (xs.length:Int)) [] []|_=>.no
 |.nils=>match i.shape with|.slc _ _ _=>.val (.int .i64 0) [] []|_=>.no
 |.row id=>match i.shape,σ.find id with|.slc _ _ _,some (.row _ _ xs)=>.val (.int .i64 (xs.length:Int)) [id] []|.map _ _,some (.mp ps)=>.val (.int .i64 (ps.length:Int)) [id] []|_,_=>.no
 |.str s=>match i.shape with|.str=>.val (.int .i64 (s.size:Int)) [] []|_=>.no
 |_=>.ask (fun K=>OpX E nt o σ K)
def zlb (E:Env)(nt:Nat)(o:Oper)(σ:AS)(e sz:Nat)(ie:TyI)(d:Nat)(x y:AV):Dk :=
 match x,y with
 |.nils,.sl a ys=>match aC a sz with|true=>.ask (fun K=>Gp ie.bytes fun by_=>AppX ys.length by_ ys fun b=>K (.row d) [d] [(d,.row e sz b)])|false=>.no
 |.nils,.nils=>.val (.row d) [d] [(d,.row e sz [])]
 |.row id,.sl a ys=>match σ.find id with
  |some (.row f c xs)=>match aC a sz && (aC f e && (aC c sz && !Nat.beq id d)) with
   |true=>.ask (fun K=>Gp ie.bytes fun by_=>AppX (xs.length+ys.length) by_ (xs++ys) fun b=>K (.row d) [d,id] [(d,.row e sz b),(id,.dead)])
   |false=>.no
  |_=>.no
 |_,_=>.ask (fun K=>OpX E nt o σ K)
def Ch:List Value->Bool |[]=>true |v::r=>v.oneCell' && Ch r
theorem Df {cs:Array Value}(h:Ch cs.toList=true):cs.all (·.oneCell')=true:=by
 have key:∀ l:List Value,Ch l=true->∀ v∈l,v.oneCell'=true:=fun l=>by
  induction l with
  |nil=>intro _ v a;simp at a
  |cons x r ih =>
   intro h v a;simp only [Ch,aA] at h;rcases mem_cons.1 a with rfl|a
   ·exact h.1
   ·exact ih h.2 v a
 rw [Array.all_eq_true_iff_forall_mem];intro v a;exact key _ h v (by simpa using a)
def isU8:Eg->Bool |.int .u8=>true |_=>false
def zr5 (E:Env)(nt:Nat)(o:Oper)(σ:AS)(Ti:Nat)(x y:Operand)(i:TyI)(d:Nat):Dk :=
 match A0 x && A0 y,i.shape,σ.eval x,σ.eval y with
 |true,.slc e esz _,.nils,.int _ n=>match lkT E.tab Ti,lkT E.tab e,σ.find d with
  |some it,some ie,none=>match it.shape,!Nat.beq esz 0 && (Gl ie && Ch ie.zero.cells.toList) with
   |.int _,true=>.ask (fun K=>PosX n (fAV (Cw ie) fun z=>Gp ie.bytes fun by_=>MakX n by_ z fun a=>K (.row d) [d] [(d,.row e esz a)]))
   |_,_=>.no
  |_,_,_=>.no
 |_,_,_,_=>.ask (fun K=>OpX E nt o σ K)
def zeu (E:Env)(nt:Nat)(o:Oper)(σ:AS)(b:Builtin)(args:Array Operand)(tys:Array TypeId):Dk :=
 match b,args.toList,tys.toList with
 |.len,[x],[T]=>match A0 x,lkT E.tab T with
  |true,some i=>aLen E nt o σ i (σ.eval x)
  |_,_=>.no
 |.cap,[x],[T]=>match A0 x,lkT E.tab T,σ.eval x with
  |true,some i,.nils=>match i.shape with|.slc _ _ _=>.val (.int .i64 0) [] []|_=>.no
  |_,_,_=>.ask (fun K=>OpX E nt o σ K)
 |.max,[x,y],_=>match A0 x && A0 y,σ.eval x,σ.eval y with
  |true,.int k a,.int _ b=>.val (.int k (max a b)) [] []
  |_,_,_=>.ask (fun K=>OpX E nt o σ K)
 |.min,[x,y],_=>match A0 x && A0 y,σ.eval x,σ.eval y with
  |true,.int k a,.int _ b=>.val (.int k (min a b)) [] []
  |_,_,_=>.ask (fun K=>OpX E nt o σ K)
 |.append,[x,y],[T,T']=>match A0 x && (A0 y && aC T T'),lkT E.tab T,o.dst with
  |true,some i,some d=>match i.shape,σ.find d with
   |.slc e sz _,none=>match lkT E.tab e with
    |some ie=>match aC ie.sz sz && (!Nat.beq sz 0 && aC ie.zero.cells.size sz) with
     |true=>match E.dr with|false=>zlb E nt o σ e sz ie d (σ.eval x) (σ.eval y)|true=>.no
     |false=>.no
    |none=>.no
   |_,_=>.no
  |false,some i,some d=>zr5 E nt o σ T' x y i d
  |_,_,_=>.no
 |_,_,_=>.ask (fun K=>OpX E nt o σ K)
abbrev Kn:=List (Nat×Bool)
def lkB:Kn->Nat->Option Bool
 |[],_=>none
 |(u,b)::r,t=>match aC u t with|true=>some b|false=>lkB r t
def Re (d:Nat):Kn->Kn
 |[]=>[]
 |(u,b)::r=>match aC u d with|true=>Re d r|false=>(u,b)::Re d r
def Rd:Option Nat->Kn->Kn |some d,kn=>Re d kn |none,kn=>kn
def KnOk (σ:AS)(kn:Kn):Prop:=∀ t b,lkB kn t=some b->σ.get t=.bool b
def knOf (kn:Kn):Operand->Option Bool |.tmp t=>lkB kn t |.const (.bool true)=>some true |.const (.bool false)=>some false |_=>none
variable {σ:AS}{kn:Kn}
theorem KnOk.of (h:KnOk σ kn){c:Operand}{b:Bool}(a:knOf kn c=some b):σ.eval c=.bool b:=by
 unfold knOf at a;split at a
 ·exact h _ _ a
 ·injection a with a;subst a;rfl
 ·injection a with a;subst a;rfl
 ·cases a
theorem zsj (kn:Kn)(d t:Nat):lkB (Re d kn) t=if d=t then none else lkB kn t:=by
 induction kn with
 |nil=>simp [Re,lkB]
 |cons x r ih =>
  obtain ⟨u,b⟩:=x;simp only [Re];cases f:aC u d with
  |true =>
   have:=aB f;subst this;rw [ih];by_cases h:u=t
   ·rw [if_pos h,if_pos h]
   ·rw [if_neg h,if_neg h];simp only [lkB];cases c:aC u t with
    |true=>exact absurd (aB c) h
    |false=>rfl
  |false =>
   simp only [lkB];rw [ih];have a:=aK f;cases c:aC u t with
   |true =>
    have:=aB c;subst this;simp only;rw [if_neg (fun e=>a e.symm)]
   |false=>simp only
theorem KnOk.upd (h:KnOk σ kn)(d:Option Nat)(v:AV)(wr:List (Nat×Ent)):KnOk (σ.upd d v wr) (Rd d kn):=fun t b a=>by
 rw [aV];cases d with
 |none=>rw [if_neg (by simp)];exact h t b a
 |some d =>
  simp only [Rd] at a;rw [zsj] at a;by_cases c:d=t
  ·rw [if_pos c] at a;cases a
  ·rw [if_neg c] at a;rw [if_neg (fun e=>c (by injection e))];exact h t b a
theorem KnOk.know (h:KnOk σ kn)(t:Nat)(b:Bool):KnOk (σ.upd (some t) (.bool b) []) ((t,b)::kn):=fun u c a=>by
 rw [aV];simp only [lkB] at a;by_cases f:t=u
 ·subst f;simp only [Nat.beq_refl] at a;injection a with a
  rw [if_pos rfl,a]
 ·rw [if_neg (fun e=>f (by injection e))];cases g:aC t u with
  |true=>exact absurd (aB g) f
  |false=>rw [g] at a;exact h u c a
def zl8 (E:Env)(nt:Nat)(o:Oper)(σ:AS)(T:Nat)(x y:Operand)(ok:Bool):Dk :=
 match A0 x && A0 y,lkT E.tab T,σ.eval x with
 |true,some i,.row id=>match i.shape,σ.find id with
  |.map kt et,some (.mp ps)=>match lkT E.tab et with
   |some ie=>match Ch ie.zero.cells.toList with
    |true=>fAV (E3 ie.zero) fun z=>.ask (fun K=>LkX E.P kt (σ.eval y) ps z fun av b=>match ok with|true=>K (.tup [av,.bool b]) [id] []|false=>K av [id] [])
    |false=>.no
   |none=>.no
  |_,_=>.ask (fun K=>OpX E nt o σ K)
 |_,_,_=>.ask (fun K=>OpX E nt o σ K)
def Y1 (E:Env)(nt:Nat)(o:Oper)(σ:AS)(T:Nat)(x y z:Operand):Dk :=
 match A0 x && (A0 y && A0 z),lkT E.tab T,σ.eval x with
 |true,some i,.row id=>match i.shape,σ.find id with
  |.map kt _,some (.mp ps)=>match (σ.eval z).closed with
   |true=>.ask (fun K=>UpX E.P kt (σ.eval y) (σ.eval z) ps fun a=>K (.tup []) [id] [(id,.mp a)])
   |false=>.no
  |_,_=>.ask (fun K=>OpX E nt o σ K)
 |_,_,_=>.ask (fun K=>OpX E nt o σ K)
def subB (lo hi:Option Operand):Bool:=match lo,hi with
 |some _,none=>true
 |_,_=>false
def zx2 (E:Env)(T:Nat):Bool:=match lkT E.tab T with
 |some i=>match i.shape with
  |.map _ et=>match lkT E.tab et with
   |some ie=>match ie.shape with
    |.slc _ _ _=>true
    |_=>false
   |none=>false
  |_=>false
 |none=>false
def aop (E:Env)(nt:Nat)(kn:Kn)(o:Oper)(σ:AS):Dk :=
 match dokN E nt o.dst with
 |false=>.no
 |true=>match o.op with
  |.move x=>match A0 x with|true=>.val (σ.eval x) [] []|false=>.no
  |.assign x=>match A0 x with|true=>.val (σ.eval x) [] []|false=>.no
  |.pick c x y=>match A0 c && (A0 x && A0 y),knOf kn c with
   |true,some true=>.val (σ.eval x) [] []
   |true,some false=>.val (σ.eval y) [] []
   |true,none=>match σ.eval c with
    |.bool b=>.ask (fun K=>Ac b (K (σ.eval x) [] []) (K (σ.eval y) [] []))
    |_=>.no
   |_,_=>.no
  |.binOp op t x y _=>match A0 x && A0 y with
   |true=>aBin E nt o σ op t (σ.eval x) (σ.eval y)
   |false=>.no
  |.unOp .not _ x=>match A0 x,σ.eval x with
   |true,.bool b=>.val (.bool (!b)) [] []
   |_,_=>.no
  |.unOp .neg _ x=>match A0 x,σ.eval x with
   |true,.int k a=>.val (.int k (k.wrap (0-a))) [] []
   |_,_=>.no
  |.alloc T=>match o.dst,lkT E.tab T with
   |some d,some i=>match σ.find d,Ch i.zero.cells.toList with
    |none,true=>.val (.ptr d 0) [d] [(d,.box T (i.zero.cells.toList.map AV.ofV))]
    |_,_=>.no
   |_,_=>.no
  |.box T x=>match o.dst with
   |some d=>match σ.find d,A0 x && okc σ (σ.eval x) with
    |none,true=>.val (.ptr d 0) (d::(σ.eval x).ids) [(d,.box T (σ.eval x).cells)]
    |_,_=>.no
   |none=>.no
  |.fieldAddr T x f=>match A0 x,lkT E.tab T with
   |true,some i=>match i.shape with
    |.strct fs=>match fs[f]? with
     |some (fo,fsz,_)=>match aC fsz 0 with
      |false=>zr7 E nt o σ fo (σ.eval x)
      |true=>.no
     |none=>.no
    |_=>.no
   |_,_=>.no
  |.load T x=>match A0 x,lkT E.tab T with
   |true,some i=>zws E nt o σ i (σ.eval x)
   |_,_=>.no
  |.store T x y=>match A0 x && A0 y,lkT E.tab T with
   |true,some i=>zr6 E nt o σ i (σ.eval y) (σ.eval x)
   |_,_=>.no
  |.indexAddr T x y=>match A0 x && A0 y,lkT E.tab T with
   |true,some i=>match i.shape with
    |.slc _ sz _=>match aC sz 0 with
     |false=>Zn E nt o σ sz (σ.eval x) (σ.eval y)
     |true=>.no
    |.arr len _ esz _=>match aC esz 0 with
     |false=>zaa E nt o σ len esz (σ.eval x) (σ.eval y)
     |true=>.no
    |_=>.ask (fun K=>OpX E nt o σ K)
   |_,_=>.no
  |.field T x f=>match A0 x,lkT E.tab T,σ.eval x with
   |true,some i,.agg cs=>match i.shape with
    |.strct fs=>match fs[f]? with
     |some (fo,fsz,some true)=>match aC fsz 0,aJ (fo+fsz) cs.length with
      |false,true=>.val (.agg ((cs.drop fo).take fsz)) [] []
      |_,_=>.no
     |some (fo,fsz,some false)=>match cs[fo]? with
      |some av=>.val av [] []
      |none=>.no
     |_=>.no
    |_=>.no
   |_,_,_=>.ask (fun K=>OpX E nt o σ K)
  |.index T x y=>match A0 x && A0 y,lkT E.tab T,σ.eval x,σ.eval y with
   |true,some i,.agg cs,.int _ n=>match i.shape with
    |.arr len _ esz (some ag)=>match aC esz 0 with
     |false=>.ask (fun K=>NatX n len fun m=>match ag with
      |true=>match aJ (m*esz+esz) cs.length with
       |true=>K (.agg ((cs.drop (m*esz)).take esz)) [] []
       |false=>False
      |false=>match cs[m*esz]? with
       |some av=>K av [] []
       |none=>False)
     |true=>.no
    |_=>.no
   |_,_,_,_=>.ask (fun K=>OpX E nt o σ K)
  |.extract x ix=>match A0 x,σ.eval x with
   |true,.tup cs=>match cs[ix]? with
    |some av=>.val av [] []
    |none=>.no
   |_,_=>.no
  |.build T ps=>match lkT E.tab T,Dq σ ps with
   |some i,true=>match i.shape,Ch i.zero.cells.toList with
    |.strct fs,true=>match fs.all (fun f=>!(aC f.2.1 0)),Cr (fun j=>(fs[j]?).map fun f=>(f.1,f.2.1)) (i.zero.cells.toList.map AV.ofV) (Cd σ ps) with
     |true,some cs=>.val (.agg cs) (E2 (Cd σ ps)) []
     |_,_=>.no
    |.arr _ _ esz _,true=>match aC esz 0,Cr (fun j=>some (j*esz,esz)) (i.zero.cells.toList.map AV.ofV) (Cd σ ps) with
     |false,some cs=>.val (.agg cs) (E2 (Cd σ ps)) []
     |_,_=>.no
    |_,_=>.no
   |_,_=>.no
  |.buildSlice T n ps=>match lkT E.tab T,Dq σ ps with
   |some i,true=>match i.shape with
    |.slc e esz _=>match lkT E.tab e with
     |some ie=>match n,ps.toList,o.dst with
      |0,[],some d=>match σ.find d,aC esz 0 with
       |none,false=>.val (.row d) [d] [(d,.row e esz [])]
       |_,_=>.no
      |n,_,_=>match isU8 ie.shape || E.bl with
       |true=>.ask (fun K=>OpX E nt o σ K)
       |false=>match Cr (fun j=>some (j*esz,esz)) (replicate (n*esz) .any) (Cd σ ps) with
        |some fl=>match !Nat.beq esz 0 && (aJ (n*esz) 16777216 && (Ch ie.zero.cells.toList && (Nat.blt 0 ie.zero.cells.size && (aU (Ew ie.shape.agg esz n fl) && (ie.shape.agg || (aC esz 1 && fl.all V0)))))) with
         |true=>fL (Ew ie.shape.agg esz n fl) fun xs=>.val (.sl esz xs) (E2 (Cd σ ps)) []
         |false=>.ask (fun K=>OpX E nt o σ K)
        |none=>.no
     |none=>.no
    |_=>.no
   |_,_=>.no
  |.makeSlice T x y=>match o.dst,lkT E.tab T with
   |some d,some i=>match i.shape,σ.find d with
    |.slc e esz _,none=>match lkT E.tab e,A0 x && A0 y,σ.eval x,σ.eval y with
     |some ie,true,.int _ n,.int _ q=>match !Nat.beq esz 0 && (Gl ie && Ch ie.zero.cells.toList) with
      |true=>.ask (fun K=>EqX (E.dr=false) <| EqX (q=n) (fAV (Cw ie) fun z=>Gp ie.bytes fun by_=>MakX n by_ z fun p=>K (.row d) [d] [(d,.row e esz p)]))
      |false=>.no
     |_,_,_,_=>.no
    |_,_=>.no
   |_,_=>.no
  |.makeMap T none=>match zx2 E T with
   |true=>.ask (fun K=>OpX E nt o σ K)
   |false=>match o.dst with
    |some d=>match σ.find d with
     |none=>.val (.row d) [d] [(d,.mp [])]
     |some _=>.no
    |none=>.no
  |.lookup T x y ok=>zl8 E nt o σ T x y ok
  |.mapUpdate T x y z=>Y1 E nt o σ T x y z
  |.insert T x y z=>Y1 E nt o σ T x y z
  |.slice T x lo hi none=>match A0 x && (opdO lo && opdO hi),lkT E.tab T,σ.eval x with
   |true,some i,.sl sz xs=>match i.shape with
    |.slc _ g _=>match aC g sz && !Nat.beq sz 0,bndA σ 0 lo,bndA σ xs.length hi with
     |true,some l,some h=>.ask (fun K=>SlsX xs l h fun p=>K (.sl sz p) [] [])
     |_,_,_=>.no
    |_=>.no
   |true,some i,.nils=>match i.shape with
    |.slc _ sz _=>match aC sz 0,bndA σ 0 lo,bndA σ 0 hi with
     |false,some l,some h=>.ask (fun K=>EqX (l=0) (EqX (h=0) (K .nils [] [])))
     |_,_,_=>.no
    |_=>.no
   |true,some i,.row id=>match subB lo hi with
    |true=>.ask (fun K=>OpX E nt o σ K)
    |false=>match i.shape,σ.find id,o.dst with
     |.slc _ g _,some (.row e sz xs),some d=>match aC g sz && (!Nat.beq sz 0 && !Nat.beq id d),σ.find d,bndA σ 0 lo,bndA σ xs.length hi with
      |true,none,some l,some h=>.ask (fun K=>EqX (l=0) (SlsX xs l h fun p=>K (.row d) [d,id] [(d,.row e sz p),(id,.dead)]))
      |_,_,_,_=>.no
     |_,_,_=>.no
   |true,some i,.str s=>match i.shape with
    |.str=>match bndA σ 0 lo,bndA σ s.size hi with
     |some l,some h=>.ask (fun K=>SlcX s.size l h fun l h=>K (.str (s.extract l h)) [] [])
     |_,_=>.no
    |_=>.no
   |_,_,_=>.ask (fun K=>OpX E nt o σ K)
  |.convert T T' x=>match A0 x,σ.eval x,lkT E.tab T,lkT E.tab T' with
   |true,.int _ n,some _,some j=>match j.shape with
    |.int k=>.val (.int k (k.wrap n)) [] []
    |_=>.ask (fun K=>OpX E nt o σ K)
   |_,_,_,_=>.ask (fun K=>OpX E nt o σ K)
  |.makeFunc (.func f) first ps=>match first.toList,ps.toList.all A0 with
   |[],true=>.val (.fn f (ps.toList.map σ.eval)) [] []
   |_,_=>.ask (fun K=>OpX E nt o σ K)
  |.call c=>match c.callee with
   |.builtin b=>zeu E nt o σ b c.args c.argTypes
   |.value x=>match A0 x && c.args.toList.all A0 with
    |true=>zwt E nt o σ c.args (σ.eval x)
    |false=>.no
   |_=>.ask (fun K=>OpX E nt o σ K)
  |_=>.ask (fun K=>OpX E nt o σ K)
def Ds (E:Env)(nt:Nat)(o:Oper)(σ:AS)(K:OpK):Prop:=∃ av ids wr,Yo E nt o σ av ids wr/\K av ids wr
section
variable {E:Env} {nt:Nat} {o:Oper} {σ:AS} {K:OpK}
theorem OpX.sound (h:OpX E nt o σ K):Ds E nt o σ K:=by
 cases h with
 |mk av ids wr h k=>exact ⟨av,ids,wr,h,k⟩
theorem Aj {cx:Cx}(h:dokN E nt o.dst=true)(b:cx.E=E)(a:cx.nt=nt):dok cx o=true:=by
 unfold dokN at h;unfold dok;rw [a,b];exact h
theorem nbeq {a b:Nat}(h:aC a b=true):a=b:=aB h
theorem nbne {a b:Nat}(h:aC a b=false):a≠b:=aK h
variable {T:Nat}{x:Operand}{i:TyI}
theorem zl9 (n:o.op=.load T x)(q:dokN E nt o.dst=true)(l:A0 x=true)(s:lkT E.tab T=some i)(h:(zws E nt o σ i (σ.eval x)).run K):Ds E nt o σ K:=by
 unfold zws at h;split at h
 ·rename_i id off f;split at h
  ·rename_i ty cs t;split at h
   ·rename_i c;split at h
    ·rename_i g;exact ⟨_,_,_,fun cx a b=>zbp n (Aj q a b) l f (by rw [a];exact s) c t (aD g),h⟩
    ·exact False.elim h
   ·rename_i c;split at h
    ·rename_i av r;exact ⟨_,_,_,fun cx a b=>zbo n (Aj q a b) l f (by rw [a];exact s) c t r,h⟩
    ·exact False.elim h
  ·exact False.elim h
 ·rename_i id sz k j f;split at h
  ·rename_i ty u xs t;split at h
   ·rename_i m;have m:=nbeq m;subst m;cases h with
    |mk el p h =>
     split at h
     ·rename_i c;split at h
      ·rename_i g;simp only [aA] at g;have v:=nbeq g.2;subst v;exact ⟨_,_,_,fun cx a b=>zap n (Aj q a b) l f (by rw [a];exact s) c t (nbeq g.1) p,h⟩
      ·split at h
       ·rename_i g;exact ⟨_,_,_,fun cx a b=>z95 n (Aj q a b) l f (by rw [a];exact s) c t (aD g) p,h⟩
       ·exact False.elim h
     ·rename_i c;split at h
      ·rename_i av r;exact ⟨_,_,_,fun cx a b=>zao n (Aj q a b) l f (by rw [a];exact s) c t p r,h⟩
      ·exact False.elim h
   ·exact False.elim h
  ·exact False.elim h
 ·rename_i cs f;split at h
  ·rename_i c;split at h
   ·rename_i g;exact ⟨_,_,_,fun cx a b=>z73 n (Aj q a b) l f (by rw [a];exact s) c (aD g),h⟩
   ·exact False.elim h
  ·rename_i c;split at h
   ·exact ⟨_,_,_,fun cx a b=>z72 n (Aj q a b) l f (by rw [a];exact s) c,h⟩
   ·exact False.elim h
 ·exact OpX.sound h
variable {y:Operand}
theorem zil (r:o.op=.store T x y)(s:dokN E nt o.dst=true)(q:A0 x=true)(p:A0 y=true)(t:lkT E.tab T=some i)(h:(zr6 E nt o σ i (σ.eval y) (σ.eval x)).run K):Ds E nt o σ K:=by
 unfold zr6 at h;split at h
 ·rename_i id off m;split at h
  ·rename_i ty cs g;split at h
   ·rename_i a;simp only [aA] at a;exact ⟨_,_,_,fun cx b f=>zp0 r (Aj s b f) q p m rfl (by rw [b];exact t) g (aD a.1) (nbeq a.2.1) a.2.2 rfl,h⟩
   ·exact False.elim h
  ·exact False.elim h
 ·rename_i id sz k j m;split at h
  ·rename_i ty u xs g;split at h
   ·rename_i a;simp only [aA] at a;obtain ⟨n,B,A,z,w⟩:=a;have n:=nbeq n;subst n;cases h with
    |mk el l c zs v h =>
     exact ⟨_,_,_,fun cx b f=>A9.weak (.cons _ (.row _ _ v) .nil) (z90 r (Aj s b f) q p m rfl (by rw [b];exact t) g l (nbeq B) (aD A) z w (z9g c)),h⟩
   ·exact OpX.sound h
  ·exact False.elim h
 ·exact OpX.sound h
variable {ag:Option Bool}
theorem zim {f fo fsz:Nat}{fs:List (Nat×Nat×Option Bool)}(q:o.op=.fieldAddr T x f)(s:dokN E nt o.dst=true)(n:A0 x=true)(t:lkT E.tab T=some i)(p:i.shape=.strct fs)(r:fs[f]? = some (fo,fsz,ag))(m:fsz≠0)(h:(zr7 E nt o σ fo (σ.eval x)).run K):Ds E nt o σ K:=by
 unfold zr7 at h;split at h
 ·rename_i id off l;split at h
  ·rename_i ty cs c;exact ⟨_,_,_,fun cx a g=>z9e q (Aj s a g) n l (by rw [a];exact t) p r m c,h⟩
  ·exact False.elim h
 ·rename_i id sz k j l;split at h
  ·rename_i ty u xs c;split at h
   ·rename_i b;have b:=nbeq b;subst b;cases h with
    |mk v h=>exact ⟨_,_,_,fun cx a g=>z9d q (Aj s a g) n l (by rw [a];exact t) p r m c v,h⟩
   ·exact False.elim h
  ·exact False.elim h
 ·rename_i cs l;exact ⟨_,_,_,fun cx a g=>z5p q (Aj s a g) n l (by rw [a];exact t) p r m,h⟩
 ·exact OpX.sound h
theorem z8q {e sz eb:Nat}(u:o.op=.indexAddr T x y)(v:dokN E nt o.dst=true)(s:A0 x=true)(r:A0 y=true)(w:lkT E.tab T=some i)(t:i.shape=.slc e sz eb)(q:sz≠0)(h:(Zn E nt o σ sz (σ.eval x) (σ.eval y)).run K):Ds E nt o σ K:=by
 unfold Zn at h;split at h
 ·rename_i g xs k n p c;split at h
  ·rename_i a;have a:=nbeq a;subst a;cases h with
   |mk m el b l h=>exact ⟨_,_,_,fun cx f j=>zaq u (Aj v f j) s r p c (by rw [f];exact w) t q b l,h⟩
  ·exact False.elim h
 ·rename_i id k n p c;split at h
  ·rename_i ty g xs z;split at h
   ·rename_i a;have a:=nbeq a;subst a;cases h with
    |mk m b hm h=>exact ⟨_,_,_,fun cx f j=>z99 u (Aj v f j) s r p c z (by rw [f];exact w) t q b hm,h⟩
   ·exact False.elim h
  ·exact False.elim h
 ·exact OpX.sound h
theorem za9 {len e esz:Nat}(p:o.op=.indexAddr T x y)(t:dokN E nt o.dst=true)(j:A0 x=true)(g:A0 y=true)(u:lkT E.tab T=some i)(l:i.shape=.arr len e esz ag)(f:esz≠0)(h:(zaa E nt o σ len esz (σ.eval x) (σ.eval y)).run K):Ds E nt o σ K:=by
 unfold zaa at h;split at h
 ·rename_i id off k n s b;split at h
  ·rename_i ty cs r;cases h with
   |mk m a hm h=>exact ⟨_,_,_,fun cx c q=>z5o p (Aj t c q) j g s b r (by rw [c];exact u) l f a hm,h⟩
  ·exact False.elim h
 ·exact OpX.sound h
theorem Wr {P:Program}(h:TyOk P T i)(b:i.shape=.bool):P.underlying T=some .bool:=by
 obtain ⟨d,c,a⟩:=h.und;rw [b] at a;cases d<;>simp only [E1,reduceCtorEq] at a;exact c
theorem zo2 {op:BinOp}{t B:Nat}(q:o.op=.binOp op t x y B)(r:dokN E nt o.dst=true)(p:A0 x=true)(n:A0 y=true)(h:(aBin E nt o σ op t (σ.eval x) (σ.eval y)).run K):Ds E nt o σ K:=by
 unfold aBin at h;split at h
 ·rename_i k a C b l f;split at h
  ·rename_i av m;cases h with
   |mk u h=>exact ⟨_,_,_,fun cx g j=>zx8 q (Aj r g j) p n l f u m,h⟩
  split at h
  ·rename_i w;have w:k=C:=by simpa using w
   subst w;split at h
   ·cases h with
    |mk u h=>exact ⟨_,_,_,fun cx g j=>zxa q (Aj r g j) p n l f u rfl,h⟩
   ·cases h with
    |mk u h=>exact ⟨_,_,_,fun cx g j=>zx9 q (Aj r g j) p n l f u rfl,h⟩
   ·split at h
    ·rename_i av m;exact ⟨_,_,_,fun cx g j=>ztr q (Aj r g j) p n l f m,h⟩
    ·split at h
     ·rename_i av m;exact ⟨_,_,_,fun cx g j=>ztp q (Aj r g j) p n l f m,h⟩
     ·exact OpX.sound h
  ·exact False.elim h
 ·rename_i a b l f;split at h
  ·rename_i i A;split at h
   ·rename_i v;exact ⟨_,_,_,fun cx g j=>zxg q (Aj r g j) p n l f (Wr (cx.E.ok t i (by rw [g];exact A)) v),h⟩
   ·rename_i v;exact ⟨_,_,_,fun cx g j=>zxd q (Aj r g j) p n l f (Wr (cx.E.ok t i (by rw [g];exact A)) v),h⟩
   ·exact OpX.sound h
  ·exact OpX.sound h
 ·rename_i a b l f;split at h
  ·rename_i c s;exact ⟨_,_,_,fun cx g j=>ztq q (Aj r g j) p n l f s,h⟩
  ·exact OpX.sound h
 ·rename_i cs ds l f;split at h
  ·rename_i c s;cases h with
   |mk z h=>exact ⟨_,_,_,fun cx g j=>Yh (aH rfl) q (Aj r g j) p n l f (by rw [Cx.P,g];exact z) s,h⟩
  ·rename_i c s;cases h with
   |mk z h=>exact ⟨_,_,_,fun cx g j=>Yh (aO rfl) q (Aj r g j) p n l f (by rw [Cx.P,g];exact z) s,h⟩
  ·exact OpX.sound h
 ·exact OpX.sound h
variable {args:Array Operand}{tys:Array TypeId}
theorem zla (t:o.op=.call { callee:=.value x,args:=args,argTypes:=tys })(u:dokN E nt o.dst=true)(k:A0 x=true)(v:args.toList.all A0=true)(h:(zwt E nt o σ args (σ.eval x)).run K):Ds E nt o σ K:=by
 unfold zwt at h;split at h
 ·rename_i f cap r;split at h
  ·rename_i s;cases h with
   |memo ps A cargs me me' res dead z a g n q p m h=>exact ⟨_,_,_,fun cx b c=>zlm t (Aj u b c) k v r (by rw [b];exact z) (by rw [b];exact a) n q p.le m (yl:=E.yl) (fun x k=>by rw [b];exact k) (by subst b;exact g),h⟩
   |mk fr res g h=>exact ⟨_,_,_,fun cx b c=>zxh t (Aj u b c) k v r rfl s (by rw [b];exact g),h⟩
   |row ty sz xs a g h =>
    split at h
    ·rename_i d j;split at h
     ·rename_i C;exact ⟨_,_,_,fun cx b c=>znj t j (Aj u b c) k v r rfl s C (by rw [b];exact g) (by rw [b];exact a),h⟩
     ·exact False.elim h
    ·exact False.elim h
   |rowT ty sz xs res a g h =>
    split at h
    ·rename_i d j;split at h
     ·rename_i C;exact ⟨_,_,_,fun cx b c=>zjo t j (Aj u b c) k v r rfl s C (by rw [b];exact g) (by rw [b];exact a),h⟩
     ·exact False.elim h
    ·exact False.elim h
  ·cases h with
   |mk fr res g C h=>exact ⟨_,_,_,fun cx b c=>zg0 t (Aj u b c) k v r rfl (by rw [b];exact g) C,h⟩
   |take id d ty sz xs M N D res cargs a g G w B j m H h=>exact ⟨_,_,_,fun cx b c=>zrv t j (Aj u b c) k v r G w B H m (by rw [b];exact g) (by rw [b];exact a),h⟩
   |eat id ty sz xs L fr res B J s g h=>exact ⟨_,_,_,fun cx b c=>znk t (Aj u b c) k v r B J s (by rw [b];exact g),h⟩
   |memo ps A cargs me me' res dead z a g n q p m h=>exact ⟨_,_,_,fun cx b c=>zlm t (Aj u b c) k v r (by rw [b];exact z) (by rw [b];exact a) n q p.le m (yl:=E.yl) (fun x k=>by rw [b];exact k) (by subst b;exact g),h⟩
   |turn id ty sz xs D res cargs a g G w B h=>exact ⟨_,_,_,fun cx b c=>zru t (Aj u b c) k v r G w B (by rw [b];exact g) (by rw [b];exact a),h⟩
 ·rename_i l T cap r;cases h with
  |mk ps A cargs ccaps me me' res dead a g n F q I p m h=>exact ⟨_,_,_,fun cx b c=>zoz t (Aj u b c) k v r (by rw [b];exact a) n F q I p.le m (yl:=E.yl) (fun x k=>by rw [b];exact k) (by subst b;exact g),h⟩
 ·exact OpX.sound h
theorem zo1 (j:o.op=.call { callee:=.builtin .len,args:=#[x],argTypes:=#[T] })(k:dokN E nt o.dst=true)(g:A0 x=true)(l:lkT E.tab T=some i)(h:(aLen E nt o σ i (σ.eval x)).run K):Ds E nt o σ K:=by
 unfold aLen at h;split at h
 ·rename_i sz xs f;split at h
  ·rename_i b;exact ⟨_,_,_,fun cx a c=>zlk (ty:=0) j (Aj k a c) g f (by rw [a];exact l) b,h⟩
  ·exact False.elim h
 ·rename_i f;split at h
  ·rename_i b;exact ⟨_,_,_,fun cx a c=>zbq (ty:=0) j (Aj k a c) g f (by rw [a];exact l) b,h⟩
  ·exact False.elim h
 ·rename_i id f;split at h
  ·rename_i b m;exact ⟨_,_,_,fun cx a c=>zp3 j (Aj k a c) g f m (by rw [a];exact l) b,h⟩
  ·rename_i b m;exact ⟨_,_,_,fun cx a c=>zfx j (Aj k a c) g f m (by rw [a];exact l) b,h⟩
  ·exact False.elim h
 ·rename_i s f;split at h
  ·rename_i b;exact ⟨_,_,_,fun cx a c=>zfw j (Aj k a c) g f (by rw [a];exact l) b,h⟩
  ·exact False.elim h
 ·exact OpX.sound h
theorem zev {d e sz eb:Nat}{ie:TyI}(u:o.op=.call { callee:=.builtin .append,args:=#[x,y],argTypes:=#[T,T] })(c:o.dst=some d)(z:dokN E nt o.dst=true)(r:A0 x=true)(q:A0 y=true)(A:lkT E.tab T=some i)(s:i.shape=.slc e sz eb)(w:lkT E.tab e=some ie)
  (k:ie.sz=sz) (p:sz≠0) (j:ie.zero.cells.size=sz) (v:σ.find d=none) (f:E.dr=false) (h:(zlb E nt o σ e sz ie d (σ.eval x) (σ.eval y)).run K):Ds E nt o σ K:=by
 unfold zlb at h;split at h
 ·rename_i n ys m l;split at h
  ·rename_i t;have t:=nbeq t;subst t;have h:Gp _ _:=h;rw [Ui] at h;obtain ⟨h1,B,H,g,h⟩:=h.elim;exact ⟨_,_,_,fun cx a b=>A9.weak (.cons _ (.row _ _ g) .nil) (zda (oid:=none) (xs:=[]) u c (Aj z a b) r q (by rw [a];exact A) s (by rw [a];exact w) k p j (aH ⟨m,rfl,rfl⟩) (aH l) v (by simpa using h1) (by simpa using B) (by rw [a];exact f)),h⟩
  ·exact False.elim h
 ·rename_i m l;exact ⟨_,_,_,fun cx a b=>zda (oid:=none) (xs:=[]) (ys:=[]) u c (Aj z a b) r q (by rw [a];exact A) s (by rw [a];exact w) k p j (aH ⟨m,rfl,rfl⟩) (aO ⟨l,rfl⟩) v (by simp) (by simp) (by rw [a];exact f),h⟩
 ·rename_i id n ys m l;split at h
  ·rename_i M I xs J;split at h
   ·rename_i G;simp only [aA,aE] at G;obtain ⟨F,D,C,L⟩:=G;have F:=nbeq F;have D:=nbeq D;have C:=nbeq C;subst F;subst D;subst C;have h:Gp _ _:=h;rw [Ui] at h;obtain ⟨h1,B,H,g,h⟩:=h.elim;exact ⟨_,_,_,fun cx a b=>A9.weak (.cons _ (.row _ _ g) (.cons _ (.refl _) .nil)) (zda (oid:=some id) u c (Aj z a b) r q (by rw [a];exact A) s (by rw [a];exact w) k p j (aO ⟨id,m,rfl,nbne L,J⟩) (aH l) v h1 B (by rw [a];exact f)),h⟩
   ·exact False.elim h
  ·exact False.elim h
 ·exact OpX.sound h
theorem Ja {α:Type}{l:Array α}{x:α}(h:l.toList=[x]):l=#[x]:=by
 cases l;simp at h;subst h;rfl
theorem Gh {α:Type}{l:Array α}{x y:α}(h:l.toList=[x,y]):l=#[x,y]:=by
 cases l;simp at h;subst h;rfl
theorem zik {Ti d:Nat}(t:o.op=.call { callee:=.builtin .append,args:=#[x,y],argTypes:=#[T,Ti] })(b:o.dst=some d)(z:dokN E nt o.dst=true)(A:lkT E.tab T=some i)(h:(zr5 E nt o σ Ti x y i d).run K):Ds E nt o σ K:=by
 unfold zr5 at h;split at h
 ·rename_i e esz eb k n a s w p;simp only [aA] at a;split at h
  ·rename_i it ie q l v;split at h
   ·rename_i kn j c;simp only [aA,aE] at c;cases h with
    |mk B h =>
     rw [Mn] at h;have g:Gp _ _:=h;rw [Ui] at g;clear h;cases g with
     |mk m hm h1 g zs r h =>
      exact ⟨_,_,_,fun cx f u=>A9.weak (.cons _ (.row _ _ r) .nil) (zar t b (Aj z f u) a.1 a.2 w p (by rw [f];exact A) s (by rw [f];exact q) j (by rw [f];exact l) (nbne c.1) c.2.1 (Df c.2.2) v hm B h1 g),h⟩
   ·exact False.elim h
  ·exact False.elim h
 ·exact OpX.sound h
theorem zbi {b:Builtin}(q:o.op=.call { callee:=.builtin b,args:=args,argTypes:=tys })(r:dokN E nt o.dst=true)(h:(zeu E nt o σ b args tys).run K):Ds E nt o σ K:=by
 unfold zeu at h;split at h
 ·rename_i x T g f;have g:=Ja g;have f:=Ja f;subst g;subst f;split at h
  ·rename_i i t p;exact zo1 q r t p h
  ·exact False.elim h
 ·rename_i x T g f;have g:=Ja g;have f:=Ja f;subst g;subst f;split at h
  ·rename_i i t p n;split at h
   ·rename_i z;exact ⟨_,_,_,fun cx s u=>zbr q (Aj r s u) t n (by rw [s];exact p) z,h⟩
   ·exact False.elim h
  ·exact OpX.sound h
 ·rename_i x y g;have g:=Gh g;subst g;split at h
  ·rename_i k a A b c n m;simp only [aA] at c;exact ⟨_,_,_,fun cx s u=>zxf q (Aj r s u) c.1 c.2 n m,h⟩
  ·exact OpX.sound h
 ·rename_i x y g;have g:=Gh g;subst g;split at h
  ·rename_i k a A b c n m;simp only [aA] at c;exact ⟨_,_,_,fun cx s u=>zxe q (Aj r s u) c.1 c.2 n m,h⟩
  ·exact OpX.sound h
 ·rename_i x y T T' g f;have g:=Gh g;have f:=Gh f;subst g;subst f;split at h
  ·rename_i i d c p j;simp only [aA] at c;obtain ⟨t,B,l⟩:=c;have l:=nbeq l;subst l;split at h
   ·rename_i e sz eb z C;split at h
    ·rename_i ie n;split at h
     ·rename_i w;simp only [aA,aE] at w;split at h
      ·rename_i v;exact zev q j r t B p z n (nbeq w.1) (nbne w.2.1) (nbeq w.2.2) C v h
      ·exact False.elim h
     ·exact False.elim h
    ·exact False.elim h
   ·exact False.elim h
  ·rename_i i d c p j;exact zik q j r p h
  ·exact False.elim h
 ·exact OpX.sound h
theorem Zd (agg:Bool)(sz n:Nat)(l:List AV)(f:l.length=n*sz)(q:agg=true\/(sz=1/\l.all V0=true)):(Ew agg sz n l).flatMap aL=l/\(Ew agg sz n l).length=n/\∀ x∈Ew agg sz n l,x.cells.length=sz:=by
 have key:∀ (l:List AV) (n:Nat),l.length=n*sz->((range n).map fun k=>AV.agg ((l.drop (k*sz)).take sz)).flatMap aL=l:=fun l n f=>by
  induction n generalizing l with
  |zero=>simp at f;subst f;rfl
  |succ n g =>
   rw [range_succ_eq_map,map_cons,flatMap_cons,map_map];have h1:(l.drop sz).length=n*sz:=by rw [length_drop,f,aP];omega
   have j:=g (l.drop sz) h1;have s:(range n).map ((fun k=>AV.agg ((l.drop (k*sz)).take sz)) ∘ Nat.succ)=(range n).map fun k=>AV.agg (((l.drop sz).drop (k*sz)).take sz):=by
    refine map_congr_left fun k _=>?_
    simp only [Function.comp,drop_drop,aP];rw [Nat.add_comm sz (k*sz)]
   rw [s,j];simp only [aL,Nat.zero_mul,drop_zero,take_append_drop]
 rcases q with rfl|⟨rfl,c⟩
 ·refine ⟨key l n f,by simp [Ew],fun x b=>?_⟩;simp only [Ew,mem_map,mem_range] at b;obtain ⟨k,m,rfl⟩:=b;have:(k+1)*sz<=n*sz:=Nat.mul_le_mul_right _ m;rw [aP] at this;simp only [aL,length_take,length_drop];omega
 ·cases agg with
  |true =>
   refine ⟨key l n f,by simp [Ew],fun x b=>?_⟩;simp only [Ew,mem_map,mem_range] at b;obtain ⟨k,m,rfl⟩:=b;simp only [aL,length_take,length_drop];omega
  |false =>
   have h:l.length=n:=by omega
   have e:Ew false 1 n l=l:=by
    unfold Ew;apply ext_getElem
    ·simp [h]
    ·intro k h1 j;simp [getElem?_eq_getElem j]
   rw [e];have a:∀ x∈l,x.cells=[x]:=fun x b=>by
    simp only [all_eq_true] at c;have:=c x b;cases x<;>first|rfl|simp [V0] at this
   refine ⟨?_,h,fun x b=>by rw [a x b];rfl⟩;clear e h f c
   induction l with
   |nil=>rfl
   |cons x r g=>rw [flatMap_cons,a x (by simp),g (fun y p=>a y (by simp [p]))];rfl
theorem Wi (place:Nat->Option (Nat×Nat)):∀ (ps:List (Nat×AV)) (cells cs:List AV),Cr place cells ps=some cs->cs.length=cells.length
 |[],cells,cs,h=>by simp only [Cr,Option.some.injEq] at h;rw [h]
 |(i,v)::r,cells,cs,h=>by
  simp only [Cr] at h;split at h
  ·cases h
  ·rename_i off size b;split at h
   ·rename_i a;simp only [aA] at a;have h1:=nbeq a.1;have c:=aD a.2;rw [Wi place r _ cs h];simp;omega
   ·cases h
theorem Ud {v:Value}(h:Ch v.cells.toList=true):Rg v=true:=by
 cases v<;>first|rfl|exact Df h
theorem zet {ok:Bool}(n:o.op=.lookup T x y ok)(t:dokN E nt o.dst=true)(h:(zl8 E nt o σ T x y ok).run K):Ds E nt o σ K:=by
 unfold zl8 at h;split at h
 ·rename_i i id a u s;simp only [aA] at a;split at h
  ·rename_i kt et ps m q;split at h
   ·rename_i ie g;split at h
    ·rename_i l;rw [Mn] at h;cases h with
     |mk r av b p j v f h =>
      subst v;cases ok with
      |true=>exact ⟨_,_,_,fun cx c k=>zd7 (ok:=true) n (Aj t c k) a.1 a.2 s rfl q (by rw [c];exact u) m (by rw [c];exact g) (Ud l) (by rw [Cx.P,c];exact p) j f,h⟩
      |false=>exact ⟨_,_,_,fun cx c k=>zd7 (ok:=false) n (Aj t c k) a.1 a.2 s rfl q (by rw [c];exact u) m (by rw [c];exact g) (Ud l) (by rw [Cx.P,c];exact p) j f,h⟩
    ·exact False.elim h
   ·exact False.elim h
  ·exact OpX.sound h
 ·exact OpX.sound h
theorem z7v {z:Operand}(k:o.op=.mapUpdate T x y z\/o.op=.insert T x y z)(q:dokN E nt o.dst=true)(h:(Y1 E nt o σ T x y z).run K):Ds E nt o σ K:=by
 unfold Y1 at h;split at h
 ·rename_i i id a s p;simp only [aA] at a;split at h
  ·rename_i kt et ps j n;split at h
   ·rename_i f;cases h with
    |mk r qs m c b h =>
     exact ⟨_,_,_,fun cx g l=>z92 k (Aj q g l) a.1 a.2.1 a.2.2 p rfl rfl n (by rw [g];exact s) j (by rw [Cx.P,g];exact m) f c b,h⟩
   ·exact False.elim h
  ·exact OpX.sound h
 ·exact OpX.sound h
theorem zr4 (U:KnOk σ kn)(h:(aop E nt kn o σ).run K):Ds E nt o σ K:=by
 unfold aop at h;split at h
 ·exact False.elim h
 rename_i u;split at h
 ·rename_i x q;split at h
  ·rename_i H;exact ⟨_,_,_,fun cx p r=>zto q (Aj u p r) H rfl,h⟩
  ·exact False.elim h
 ·rename_i x q;split at h
  ·rename_i H;exact ⟨_,_,_,fun cx p r=>zln q (Aj u p r) H rfl,h⟩
  ·exact False.elim h
 ·rename_i c x y q;split at h
  ·rename_i g O;simp only [aA] at g;exact ⟨_,_,_,fun cx p r=>Z8 q (Aj u p r) g.1 g.2.1 (U.of O) rfl rfl,h⟩
  ·rename_i g O;simp only [aA] at g;exact ⟨_,_,_,fun cx p r=>Z2 q (Aj u p r) g.1 g.2.2 (U.of O) rfl rfl,h⟩
  ·rename_i g O;simp only [aA] at g;split at h
   ·rename_i b O;cases h with
    |mk h1 I =>
     cases C:b with
     |true=>exact ⟨_,_,_,fun cx p r=>Z8 q (Aj u p r) g.1 g.2.1 O C rfl,h1 C⟩
     |false=>exact ⟨_,_,_,fun cx p r=>Z2 q (Aj u p r) g.1 g.2.2 O C rfl,I C⟩
   ·exact False.elim h
  ·exact False.elim h
 ·rename_i op t x y t2 q;split at h
  ·rename_i g;simp only [aA] at g;exact zo2 q u g.1 g.2 h
  ·exact False.elim h
 ·rename_i t x q;split at h
  ·rename_i b H F;exact ⟨_,_,_,fun cx p r=>zxb q (Aj u p r) H F,h⟩
  ·exact False.elim h
 ·rename_i t x q;split at h
  ·rename_i k a H F;exact ⟨_,_,_,fun cx p r=>zxc q (Aj u p r) H F rfl,h⟩
  ·exact False.elim h
 ·rename_i T q;split at h
  ·rename_i d i v w;split at h
   ·rename_i G D;exact ⟨_,_,_,fun cx p r=>zux q v (Aj u p r) (by rw [p];exact w) G (Df D),h⟩
   ·exact False.elim h
  ·exact False.elim h
 ·rename_i T x q;split at h
  ·rename_i d v;split at h
   ·rename_i G g;simp only [aA] at g;exact ⟨_,_,_,fun cx p r=>zyv q v (Aj u p r) g.1 rfl g.2 G,h⟩
   ·exact False.elim h
  ·exact False.elim h
 ·rename_i T x f q;split at h
  ·rename_i i H w;split at h
   ·rename_i fs B;split at h
    ·rename_i fo fsz ag G;split at h
     ·rename_i D;exact zim q u H w B G (nbne D) h
     ·exact False.elim h
    ·exact False.elim h
   ·exact False.elim h
  ·exact False.elim h
 ·rename_i T x q;split at h
  ·rename_i i H w;exact zl9 q u H w h
  ·exact False.elim h
 ·rename_i T x y q;split at h
  ·rename_i i A w;simp only [aA] at A;exact zil q u A.1 A.2 w h
  ·exact False.elim h
 ·rename_i T x y q;split at h
  ·rename_i i A w;simp only [aA] at A;split at h
   ·rename_i e sz eb B;split at h
    ·rename_i D;exact z8q q u A.1 A.2 w B (nbne D) h
    ·exact False.elim h
   ·rename_i len e esz ag B;split at h
    ·rename_i D;exact za9 q u A.1 A.2 w B (nbne D) h
    ·exact False.elim h
   ·exact OpX.sound h
  ·exact False.elim h
 ·rename_i T x f q;split at h
  ·rename_i i cs H w F;split at h
   ·rename_i fs B;split at h
    ·rename_i fo fsz G;split at h
     ·rename_i D C;exact ⟨_,_,_,fun cx p r=>z9b q (Aj u p r) H F (by rw [p];exact w) B G (nbne D) (aD C),h⟩
     ·exact False.elim h
    ·rename_i fo fsz G;split at h
     ·rename_i av J;exact ⟨_,_,_,fun cx p r=>z9a q (Aj u p r) H F (by rw [p];exact w) B G J,h⟩
     ·exact False.elim h
    ·exact False.elim h
   ·exact False.elim h
  ·exact OpX.sound h
 ·rename_i T x y q;split at h
  ·rename_i i cs k n A w F M;simp only [aA] at A;split at h
   ·rename_i len e esz ag B;split at h
    ·rename_i D;cases h with
     |mk m S Q h =>
      split at h
      ·split at h
       ·rename_i C;exact ⟨_,_,_,fun cx p r=>z97 q (Aj u p r) A.1 A.2 F M (by rw [p];exact w) B (nbne D) S Q (aD C),h⟩
       ·exact False.elim h
      ·split at h
       ·rename_i av J;exact ⟨_,_,_,fun cx p r=>z96 q (Aj u p r) A.1 A.2 F M (by rw [p];exact w) B (nbne D) S Q J,h⟩
       ·exact False.elim h
    ·exact False.elim h
   ·exact False.elim h
  ·exact OpX.sound h
 ·rename_i x ix q;split at h
  ·rename_i cs H F;split at h
   ·rename_i av J;exact ⟨_,_,_,fun cx p r=>zfy q (Aj u p r) H F J,h⟩
   ·exact False.elim h
  ·exact False.elim h
 ·rename_i T ps q;split at h
  ·rename_i i w g;split at h
   ·rename_i fs B D;split at h
    ·rename_i cs af G;exact ⟨_,_,_,fun cx p r=>z7k q (Aj u p r) (by rw [p];exact w) B (Df D) g af G,h⟩
    ·exact False.elim h
   ·rename_i n e esz ag B D;split at h
    ·rename_i cs ab G;exact ⟨_,_,_,fun cx p r=>z9f q (Aj u p r) (by rw [p];exact w) B (Df D) g (nbne ab) G,h⟩
    ·exact False.elim h
   ·exact False.elim h
  ·exact False.elim h
 ·rename_i T n ps q;split at h
  ·rename_i i w g;split at h
   ·rename_i e esz eb B;split at h
    ·rename_i ie F;split at h
     ·rename_i d L v;split at h
      ·rename_i G D;have L:ps=#[]:=by cases ps;simp at L;subst L;rfl
       exact ⟨_,_,_,fun cx p r=>zd8 q v (Aj u p r) (by rw [p];exact w) B (by rw [p];exact F) (nbne D) L G,h⟩
      ·exact False.elim h
     ·split at h
      ·exact OpX.sound h
      ·split at h
       ·rename_i fl G;split at h
        ·rename_i C;simp only [aA,aE,Bool.or_eq_true] at C;obtain ⟨b1,b2,b3,b4,b5,b6⟩:=C;rw [Mw] at h;have N:=Wi _ _ _ _ G;rw [length_replicate] at N;obtain ⟨c1,c2,c3⟩:=Zd ie.shape.agg esz _ fl N (b6.imp id (fun ⟨h1,I⟩=>⟨nbeq h1,I⟩));exact ⟨_,_,_,fun cx p r=>z88 q (Aj u p r) (by rw [p];exact w) B (by rw [p];exact F) (nbne b1) b2 (Df b3) b4 g b5 c2 (by simp only [all_eq_true];intro x H;rw [c3 x H];simp) (by rw [c1];exact G),h⟩
        ·exact OpX.sound h
       ·exact False.elim h
    ·exact False.elim h
   ·exact False.elim h
  ·exact False.elim h
 ·rename_i T x y q;split at h
  ·rename_i d i v w;split at h
   ·rename_i e esz eb B G;split at h
    ·rename_i ie k n k' n' ae g F M;simp only [aA] at g;split at h
     ·rename_i C;simp only [aA,aE] at C;cases h with
      |mk W h =>
      cases h with
      |mk ac h =>
       rw [Mn] at h;have I:Gp _ _:=h;rw [Ui] at I;clear h;cases I with
       |mk m hm h1 I zs D h =>
        subst ac;exact ⟨_,_,_,fun cx p r=>A9.weak (.cons _ (.row _ _ D) .nil) (zjk q v (Aj u p r) g.1 g.2 F M (by rw [p];exact w) B (by rw [p];exact ae) (nbne C.1) C.2.1 (Df C.2.2) G hm h1 I (by rw [p];exact W)),h⟩
     ·exact False.elim h
    ·exact False.elim h
   ·exact False.elim h
  ·exact False.elim h
 ·rename_i T q;split at h
  ·exact OpX.sound h
  ·split at h
   ·rename_i d v;split at h
    ·rename_i G;exact ⟨_,_,_,fun cx p r=>zp1 q v (Aj u p r) G,h⟩
    ·exact False.elim h
   ·exact False.elim h
 ·rename_i T x y ok q;exact zet q u h
 ·rename_i T x y z q;exact z7v (aH q) u h
 ·rename_i T x y z q;exact z7v (aO q) u h
 ·rename_i T x lo hi q;split at h
  ·rename_i i sz xs g w F;simp only [aA] at g;split at h
   ·rename_i e aa eb B;split at h
    ·rename_i l hh C h1 I;simp only [aA,aE] at C;have hq:=nbeq C.1;subst hq;cases h with
     |mk l' h' P Y Z X zs D h =>
      subst P;subst Y;subst D;exact ⟨_,_,_,fun cx p r=>znf (esz:=0) q (Aj u p r) g.1 g.2.1 g.2.2 F (by rw [p];exact w) B (nbne C.2) h1 I Z X,h⟩
    ·exact False.elim h
   ·exact False.elim h
  ·rename_i i g w F;simp only [aA] at g;split at h
   ·rename_i e sz eb B;split at h
    ·rename_i l hh D h1 I;cases h with
     |mk P h =>
      cases h with
      |mk Y h =>
       subst P;subst Y;exact ⟨_,_,_,fun cx p r=>z86 q (Aj u p r) g.1 g.2.1 g.2.2 F (by rw [p];exact w) B (nbne D) h1 I,h⟩
    ·exact False.elim h
   ·exact False.elim h
  ·rename_i i id g w F;simp only [aA] at g;split at h
   ·exact OpX.sound h
   ·split at h
    ·rename_i e' aa eb e sz xs d B G v;split at h
     ·rename_i l hh C ad h1 I;simp only [aA,aE] at C;have hq:=nbeq C.1;subst hq;cases h with
      |mk P h =>
       subst P;cases h with
       |mk l' h' q1 q2 Z X zs D h =>
        have q1:l'=0:=by omega
        subst q1;subst q2;rw [drop_zero] at D;subst D;exact ⟨_,_,_,fun cx p r=>zjj q v (Aj u p r) g.1 g.2.1 g.2.2 F (by rw [p];exact w) B (nbne C.2.1) G ad (nbne C.2.2) h1 I X,h⟩
     ·exact False.elim h
    ·exact False.elim h
  ·rename_i i s g w F;simp only [aA] at g;split at h
   ·rename_i B;split at h
    ·rename_i l hh h1 I;cases h with
     |mk l' h' P Y Z X h =>
      subst P;subst Y;exact ⟨_,_,_,fun cx p r=>z91 q (Aj u p r) g.1 g.2.1 g.2.2 F (by rw [p];exact w) B h1 I Z X,h⟩
    ·exact False.elim h
   ·exact False.elim h
  ·exact OpX.sound h
 ·rename_i T T' x q;split at h
  ·rename_i k n i j H F w ah;split at h
   ·rename_i k' B;exact ⟨_,_,_,fun cx p r=>zfz q (Aj u p r) H F (by rw [p];exact w) (by rw [p];exact ah) B,h⟩
   ·exact OpX.sound h
  ·exact OpX.sound h
 ·rename_i f first ps q;split at h
  ·rename_i V g;have:first=#[]:=by cases first;simp at V;subst V;rfl
   subst this;exact ⟨_,_,_,fun cx p r=>zbm q (Aj u p r) g rfl,h⟩
  ·exact OpX.sound h
 ·rename_i c q;obtain ⟨callee,args,tys⟩:=c;simp only at h;split at h
  ·exact zbi q u h
  ·rename_i x;split at h
   ·rename_i C;simp only [aA] at C;exact zla q u C.1 C.2 h
   ·exact False.elim h
  ·exact OpX.sound h
 ·exact OpX.sound h
end
variable {α:Type}
def fEnt:Ent->(Ent->α)->α |.box ty cs,k=>fL cs fun l=>k (.box ty l) |.row ty sz xs,k=>k (.row ty sz xs) |.mp ps,k=>k (.mp ps) |.nest ty es,k=>k (.nest ty es) |.mpn ps,k=>k (.mpn ps) |.are ty idx os,k=>k (.are ty idx os) |.it ps,k=>k (.it ps) |.itp ps,k=>k (.itp ps) |.itc p ps,k=>k (.itc p ps) |.dead,k=>k .dead |.gen ty sz xs,k=>fL xs fun xs=>k (.gen ty sz xs) |.lp fn ps a b nt busy caps,k=>fL caps fun caps=>k (.lp fn ps a b nt busy caps)
theorem zwe (e:Ent)(k:Ent->α):fEnt e k=k e:=by cases e<;>simp only [fEnt,Mw]
def eApp:List (Nat×Ent)->List (Nat×Ent)->(List (Nat×Ent)->α)->α |[],me,k=>k me |(i,e)::r,me,k=>fEnt e fun a=>eApp r me fun l=>k ((i,a)::l)
theorem zki:∀ (wr me:List (Nat×Ent)) (k:List (Nat×Ent)->α),eApp wr me k=k (wr++me)
 |[],me,k=>rfl
 |(i,e)::r,me,k=>by rw [eApp,zwe,zki];rfl
def upK (σ:AS)(d:Option Nat)(av:AV)(wr:List (Nat×Ent))(k:AS->α):α :=
 fAV av fun a=>match σ,d with
  |⟨tm,me⟩,some d=>eApp wr me fun me'=>k ⟨(d,a)::tm,me'⟩
  |⟨tm,me⟩,none=>eApp wr me fun me'=>k ⟨tm,me'⟩
theorem zti (σ:AS)(d:Option Nat)(av:AV)(wr:List (Nat×Ent))(k:AS->α):upK σ d av wr k=k (σ.upd d av wr):=by
 unfold upK;rw [Mn];obtain ⟨tm,me⟩:=σ;cases d<;>simp only [zki]<;>rfl
def fAS (σ:AS)(k:AS->α):α:=match σ with
 |⟨(d,av)::tm,me⟩=>fAV av fun a=>eApp me [] fun me'=>k ⟨(d,a)::tm,me'⟩
 |⟨[],me⟩=>k ⟨[],me⟩
theorem zu9 (σ:AS)(k:AS->α):fAS σ k=k σ:=by
 obtain ⟨tm,me⟩:=σ;cases tm with
 |nil=>rfl
 |cons x tm=>obtain ⟨d,av⟩:=x;simp only [fAS,Mn,zki,append_nil]
theorem zce {t:Nat}{b:Bool}(h:σ.get t=.bool b):Ext (σ.upd (some t) (.bool b) []) σ :=
 ⟨fun u=>by
  rw [aV];by_cases a:t=u
  ·subst a;rw [if_pos rfl,h]
  ·rw [if_neg (fun e=>a (by injection e))],fun i=>by rw [AS.find_upd];rfl⟩
inductive Bi
 |code (c:Code)
 |blk (id:Nat)
 |ops (d:Bool) (os:Array Oper) (l:List Oper) (kn:Kn) (trs:List Tr)
inductive Stop
 |fin (e:Exit) (σ:AS)
 |no
 |more (K:List Bi) (e:Exit) (σ:AS)
 |ask (p:OpK->Prop) (dst:Option Nat) (d:Bool) (os:Array Oper) (l:List Oper) (kn:Kn) (trs:List Tr) (K:List Bi) (σ:AS)
 |guard (c:Bool) (t:Nat) (d:Bool) (os:Array Oper) (l:List Oper) (kn:Kn) (trs:List Tr) (K:List Bi) (σ:AS)
 |cond (b:Bool) (x y:Code) (K:List Bi) (σ:AS)
 |loop (c:Code) (K:List Bi) (σ:AS)
 |rng (gv:AV) (ps:Array Tmp) (a b:Code) (K:List Bi) (σ:AS)
 |draw (os:Array Oper) (trs:List Tr) (K:List Bi) (σ:AS)
abbrev Goer:=List Bi->Exit->AS->Stop
def opGo (rec:Goer)(d:Bool)(os:Array Oper)(o:Oper)(l:List Oper)(kn:Kn)(trs:List Tr)(K:List Bi)(σ:AS):Dk->Stop |.no=>.no |.val av ids wr=>upK σ o.dst av wr fun a=>rec (.ops d os l (Rd o.dst kn) (⟨av,ids,wr⟩::trs)::K) .normal a |.ask p=>.ask p o.dst d os l (Rd o.dst kn) trs K σ
def skGo (rec:Goer)(d:Bool)(os:Array Oper)(o:Oper)(l:List Oper)(kn:Kn)(trs:List Tr)(K:List Bi)(σ:AS):Stop:=upK σ o.dst (.tup []) [] fun a=>rec (.ops d os l (Rd o.dst kn) (⟨.tup [],[],[]⟩::trs)::K) .normal a
def zvo (E:Env)(nt:Nat)(rec:Goer)(d:Bool)(os:Array Oper)(kn:Kn)(trs:List Tr)(K:List Bi)(σ:AS):List Oper->Stop
 |[]=>match d with|true=>.draw os trs.reverse K σ|false=>rec K .normal σ
 |o::l=>match o.guard with
  |none=>opGo rec d os o l kn trs K σ (aop E nt kn o σ)
  |some (g,want)=>match dokN E nt o.dst,Bb os g with
   |true,some t=>match lkB kn t,want with
    |some true,true=>opGo rec d os o l kn trs K σ (aop E nt kn o σ)
    |some false,false=>opGo rec d os o l kn trs K σ (aop E nt kn o σ)
    |some true,false=>skGo rec d os o l kn trs K σ
    |some false,true=>skGo rec d os o l kn trs K σ
    |none,_=>match σ.get t with
     |.bool c=>.guard c t d os (o::l) kn trs K σ
     |.tup []=>skGo rec d os o l kn trs K σ
     |_=>.no
   |_,_=>.no
def R6 (ids:List Nat)(rec:Goer)(K:List Bi)(σ:AS):Code->Stop
 |.skip=>rec K .normal σ
 |.ret=>rec K .ret σ
 |.exit id=>rec K (.exit id) σ
 |.seq x y=>rec (.code x::.code y::K) .normal σ
 |.block id c=>rec (.code c::.blk id::K) .normal σ
 |.cond c x y=>match A0 c,σ.eval c with
  |true,.bool b=>.cond b x y K σ
  |_,_=>.no
 |.region id os d=>match memB id ids with
  |true=>.more (.code (.region id os d)::K) .normal σ
  |false=>rec (.ops d os os.toList [] []::K) .normal σ
 |.loop c=>.loop c K σ
 |.rangeFunc g ps a b=>match A0 g with
  |true=>.rng (σ.eval g) ps a b K σ
  |false=>.no
 |_=>.no
def zqd (rec:Goer)(σ:AS)(e:Exit):List Bi->Stop
 |[]=>.fin e σ
 |.blk id::K=>match e with
  |.exit a=>match aC a id with|true=>rec K .normal σ|false=>rec K (.exit a) σ
  |e=>rec K e σ
 |.code _::K=>rec K e σ
 |.ops _ _ _ _ _::_=>.no
def zy2 (E:Env)(nt:Nat)(ids:List Nat)(rec:Goer)(σ:AS):List Bi->Stop |[]=>.fin .normal σ |.blk _::K=>rec K .normal σ |.code c::K=>R6 ids rec K σ c |.ops d os l kn trs::K=>zvo E nt rec d os kn trs K σ l
def go (E:Env)(nt:Nat)(ids:List Nat):Nat->Goer
 |0,K,e,σ=>.more K e σ
 |n+1,K,e,σ=>match e with
  |.normal=>zy2 E nt ids (go E nt ids n) σ K
  |e=>zqd (go E nt ids n) σ e K
def KW (cx:Cx)(R:Exit->AS->Prop):List Bi->Exit->AS->Prop |[],e,σ=>R e σ |.blk id::K,e,σ=>Jb id (KW cx R K) e σ |.code c::K,.normal,σ=>WP cx c (KW cx R K) σ |.code _::K,e,σ=>KW cx R K e σ |.ops d os l kn trs::K,.normal,σ=>KnOk σ kn->∀ i,os.toList.drop i=l->Exec cx os i σ trs fun a b=>(d=true->Hm os=true/\Hr os a=true)/\KW cx R K .normal b |.ops _ _ _ _ _::_,_,_=>False
structure AW (E:Env) (nt:Nat) (R:Exit->AS->Prop) (K:List Bi) (e:Exit) (σ:AS):Prop where
 out:∀ cx:Cx,cx.E=E->cx.nt=nt->cx.ev=false->KW cx R K e σ
def Ei (E:Env)(nt:Nat)(R:Exit->AS->Prop):Stop->Prop |.fin e σ=>R e σ |.no=>False |.more K e σ=>AW E nt R K e σ |.ask p dst d os l kn trs K σ=>p fun av ids wr=>AW E nt R (.ops d os l kn (⟨av,ids,wr⟩::trs)::K) .normal (σ.upd dst av wr) |.guard c t d os l kn trs K σ=>Ac c (AW E nt R (.ops d os l ((t,true)::kn) trs::K) .normal (σ.upd (some t) (.bool true) [])) (AW E nt R (.ops d os l ((t,false)::kn) trs::K) .normal (σ.upd (some t) (.bool false) [])) |.cond b x y K σ=>Ac b (AW E nt R (.code x::K) .normal σ) (AW E nt R (.code y::K) .normal σ) |.loop c K σ=>B5 E nt (fun next f=>AW E nt (Cy next (AW E nt R K)) [.code c] .normal f) σ |.rng gv ps a b K σ=>RngX E nt gv ps a b σ (fun f=>AW E nt R K .normal f) |.draw os trs K σ=>(Hm os=true/\Hr os trs=true)/\AW E nt R K .normal σ
section
variable {E:Env} {nt:Nat} {R:Exit->AS->Prop}
variable {K:List Bi}{e:Exit}
theorem zwm {cx:Cx}{c:Code}(h:KW cx R (.code c::K) e σ):Cy (WP cx c (KW cx R K)) (KW cx R K) e σ:=by cases e<;>exact h
variable {rec:Goer}{d:Bool}{os:Array Oper}
theorem zc6 (a:∀ K e σ,Ei E nt R (rec K e σ)->AW E nt R K e σ){o:Oper}{l:List Oper}{trs:List Tr}(b:KnOk σ kn)
  (h:Ei E nt R (opGo rec d os o l kn trs K σ (aop E nt kn o σ))):Ds E nt o σ fun av ids wr=>AW E nt R (.ops d os l (Rd o.dst kn) (⟨av,ids,wr⟩::trs)::K) .normal (σ.upd o.dst av wr):=by
 refine zr4 b ?_;generalize aop E nt kn o σ=r at h;cases r with
 |no=>exact h
 |val av ids wr=>simp only [opGo,zti] at h;exact a _ _ _ h
 |ask p=>exact h
theorem zk2 (k:∀ K e σ,Ei E nt R (rec K e σ)->AW E nt R K e σ){l:List Oper}{trs:List Tr}
  (h:Ei E nt R (zvo E nt rec d os kn trs K σ l)):AW E nt R (.ops d os l kn trs::K) .normal σ:=by
 refine ⟨fun cx p n s a i z=>?_⟩;cases l with
 |nil =>
  refine Exec.done (by have:=congrArg length z;simp at this;omega) ?_;cases d with
  |true=>exact ⟨fun _=>h.1,h.2.out cx p n s⟩
  |false=>exact ⟨fun I=>by simp at I,(k _ _ _ h).out cx p n s⟩
 |cons o l =>
  have hi:i<os.size:=by
   have:=congrArg length z;simp at this;omega
  have A:os[i]? = some o:=by
   have H:(os.toList.drop i)[0]? = some o:=by rw [z];rfl
   rw [getElem?_drop,Nat.add_zero] at H;simpa using H
  have j:os.toList.drop (i+1)=l:=by
   rw [<-drop_drop,z];rfl
  have G:Bb os i=o.dst:=by simp [Bb,A]
  rw [zvo] at h;split at h
  ·rename_i B;obtain ⟨av,ids,wr,D,f⟩:=zc6 k a h;exact Exec.op A B (D cx p n) (f.out cx p n s (a.upd _ _ _) (i+1) j)
  ·rename_i g want B;split at h
   ·rename_i t u F;have u:dok cx o=true:=Aj u p n;have run:σ.get t=.bool want->Ei E nt R (opGo rec d os o l kn trs K σ (aop E nt kn o σ))->Exec cx os i σ trs (fun m r=>(d=true->Hm os=true/\Hr os m=true)/\KW cx R K .normal r):=fun v f=>by
     obtain ⟨av,ids,wr,D,f⟩:=zc6 k a f;exact Exec.cons hi (A9.step_guard A B F v rfl (D cx p n)) (by rw [G];exact f.out cx p n s (a.upd _ _ _) (i+1) j)
    have skip:((∃ b,σ.get t=.bool b/\b≠want)\/σ.get t=.tup [])->Ei E nt R (skGo rec d os o l kn trs K σ)->Exec cx os i σ trs (fun m r=>(d=true->Hm os=true/\Hr os m=true)/\KW cx R K .normal r):=fun v f=>by
     unfold skGo at f;rw [zti] at f;exact Exec.cons hi (Wg A u B F v) (by rw [G];exact (k _ _ _ f).out cx p n s (a.upd _ _ _) (i+1) j)
    split at h
    ·rename_i f;exact run (a _ _ f) h
    ·rename_i f;exact run (a _ _ f) h
    ·rename_i f;exact skip (aH ⟨_,a _ _ f,by simp⟩) h
    ·rename_i f;exact skip (aH ⟨_,a _ _ f,by simp⟩) h
    ·split at h
     ·rename_i c C;cases h with
      |mk h1 J =>
       cases q:c with
       |true =>
        have w:σ.get t=.bool true:=by rw [C,q]
        exact Exec.ext (zce w) ((h1 q).out cx p n s (a.know t true) i z)
       |false =>
        have w:σ.get t=.bool false:=by rw [C,q]
        exact Exec.ext (zce w) ((J q).out cx p n s (a.know t false) i z)
     ·rename_i C;exact skip (aO C) h
     ·exact False.elim h
   ·exact False.elim h
theorem zh9 (a:∀ K e σ,Ei E nt R (rec K e σ)->AW E nt R K e σ)(l:e≠.normal)(h:Ei E nt R (zqd rec σ e K)):AW E nt R K e σ:=by
 refine ⟨fun cx j g f=>?_⟩
 match K with
 |[]=>exact h
 |.code c::K =>
  have h:=(a _ _ _ h).out cx j g f;cases e<;>first|exact absurd rfl l|exact h
 |.ops _ _ _ _ _::K=>exact False.elim h
 |.blk id::K =>
  cases e with
  |normal=>exact absurd rfl l
  |exit b =>
   rw [zqd] at h;split at h
   ·rename_i k;have:=nbeq k;subst this;show Jb b (KW cx R K) (.exit b) σ;simp only [Jb,if_true];exact (a _ _ _ h).out cx j g f
   ·rename_i k;show Jb id (KW cx R K) (.exit b) σ;simp only [Jb];rw [if_neg (nbne k)];exact (a _ _ _ h).out cx j g f
  |_=>exact (a _ _ _ h).out cx j g f
theorem zi8 (f:∀ K e σ,Ei E nt R (rec K e σ)->AW E nt R K e σ){c:Code}{ids:List Nat}(h:Ei E nt R (R6 ids rec K σ c)):AW E nt R (.code c::K) .normal σ:=by
 refine ⟨fun cx q p j=>?_⟩;show WP cx c (KW cx R K) σ
 match c with
 |.skip=>exact WP.skip ((f _ _ _ h).out cx q p j)
 |.ret=>exact WP.ret ((f _ _ _ h).out cx q p j)
 |.exit id=>exact WP.exit ((f _ _ _ h).out cx q p j)
 |.seq x y =>
  have h:=(f _ _ _ h).out cx q p j;exact WP.seq (aX h fun e r V=>zwm V)
 |.block id c=>exact WP.block ((f _ _ _ h).out cx q p j)
 |.cond c x y =>
  rw [R6] at h;split at h
  ·rename_i b G X;cases h with
   |mk h1 u=>exact WP.cond G X (fun P=>(h1 P).out cx q p j) (fun P=>(u P).out cx q p j)
  ·exact False.elim h
 |.region id os false =>
  rw [R6] at h;split at h
  ·exact h.out cx q p j
  obtain ⟨trs,r,F,u,A⟩:=(f _ _ _ h).out cx q p j (fun t b h=>by simp [lkB] at h) 0 rfl;exact WP.region ⟨trs,r,F,A⟩
 |.region id os true =>
  rw [R6] at h;split at h
  ·exact h.out cx q p j
  obtain ⟨trs,r,F,u,A⟩:=(f _ _ _ h).out cx q p j (fun t b h=>by simp [lkB] at h) 0 rfl;exact aW (u rfl).1 ⟨trs,r,F,(u rfl).2,A⟩
 |.loop c =>
  cases h with
  |mk I n τ L Z round =>
   refine WP.loop (fun n σ=>∃ τ,LeX E nt σ τ/\I n τ) n ⟨τ,L,Z⟩ (fun n σ ⟨τ,L,Y⟩=>WP.weaken (L cx q p j) ?_);refine aX ((round n τ Y).out cx q p j) (fun e r Q=>?_);cases e with
   |normal=>obtain ⟨m,B,h1,u,A⟩:=Q;exact ⟨m,u,B,h1,A⟩
   |_=>exact Q.out cx q p j
 |.rangeFunc g ps a b =>
  rw [R6] at h;split at h
  ·rename_i O;cases h with
   |mk gf cap N W C z v pp S ycaps ccaps me me' dead D M U J H s k =>
    subst q;subst p;exact WP.rangeFunc C z v O N W D M U J.le H s (k.out _ rfl rfl j)
  ·exact False.elim h
 |.scope c=>exact False.elim h
 |.label l=>exact False.elim h
 |.goto l=>exact False.elim h
 |.refuse w=>exact False.elim h
theorem Qo {ids:List Nat}:∀ (n:Nat) (K:List Bi) (e:Exit) (σ:AS),Ei E nt R (go E nt ids n K e σ)->AW E nt R K e σ
 |0,K,e,σ,h=>h
 |n+1,K,e,σ,h=>by
  unfold go at h;split at h
  ·match K with
   |[]=>exact ⟨fun cx _ _ _=>h⟩
   |.blk id::K=>exact ⟨fun cx g f b=>(Qo n _ _ _ h).out cx g f b⟩
   |.code c::K=>exact zi8 (Qo n) h
   |.ops d os l kn trs::K=>exact zk2 (Qo n) h
  ·rename_i a;exact zh9 (Qo n) a h
theorem AW.step (h:Ei E nt R (fAS σ fun a=>go E nt [] 1000000 K e a)):AW E nt R K e σ:=by
 rw [zu9] at h;exact Qo _ _ _ _ h
theorem AW.stepU (ids:List Nat)(h:Ei E nt R (fAS σ fun a=>go E nt ids 1000000 K e a)):AW E nt R K e σ:=by
 rw [zu9] at h;exact Qo _ _ _ _ h
theorem AW.into {id:Nat}(h:AW E nt R (.ops d os os.toList [] []::K) .normal σ):AW E nt R (.code (.region id os d)::K) .normal σ:=⟨fun cx l k j=>by
 obtain ⟨trs,a,c,g,f⟩:=h.out cx l k j (fun t b h=>by simp [lkB] at h) 0 rfl;cases d with
 |false=>exact WP.region ⟨trs,a,c,f⟩
 |true=>exact aW (g rfl).1 ⟨trs,a,c,(g rfl).2,f⟩⟩
end
variable {E:Env}
theorem Con.walk {fr:Bool}{f:FuncId}{fn:Func}{args:List AV}{res:AV}(c:Code)(n:E.P.funcs[f]? = some fn)(q:fn.body=some c)(p:Bh E f)(l:aJ args.length fn.ntmps=true)(k:fr=false\/res.flat=true)
  (h:AW E fn.ntmps (EndA E fn res) [.code c] .normal (Di args)) (b:E.rg=false:=by rfl) (a:E.yl=none:=by rfl) (g:E.np=0:=by rfl) (j:E.ld=false:=by rfl)(b:E.rg=false:=by rfl) (a:E.yl=none:=by rfl) (g:E.np=0:=by rfl) (j:E.ld=false:=by rfl):Con E fr f args res :=
 Con.of n q p (aD l) k (fun S w=>aX (h.out (Cx.call E S w fn.ntmps) rfl rfl rfl) fun e σ m=>by cases e<;>exact m) b a g j
variable {ty sz:Nat}
theorem E4.walk {f:FuncId}{fn:Func}{args xs:List AV}(c:Code)(m:E.P.funcs[f]? = some fn)(p:fn.body=some c)(n:Bh E f)(k:aJ args.length fn.ntmps=true)
  (h:AW E fn.ntmps (EndR fn ty sz xs) [.code c] .normal (Di args)) (b:E.rg=false:=by rfl) (a:E.yl=none:=by rfl) (g:E.np=0:=by rfl) (j:E.ld=false:=by rfl)(b:E.rg=false:=by rfl) (a:E.yl=none:=by rfl) (g:E.np=0:=by rfl) (j:E.ld=false:=by rfl):E4 E f args ty sz xs :=
 E4.of m p n (aD k) (fun S w=>aX (h.out (Cx.call E S w fn.ntmps) rfl rfl rfl) fun e σ l=>by cases e<;>exact l) b a g j
variable {nt:Nat}
theorem LeX.of {τ:AS}(ps:List (Nat×Nat))(a:injB (rho ps) (τ.me.map (·.1))=true)(h1:LeV σ (rho ps) (τ.me.map (·.1)) τ.tm)(c:LeE σ (rho ps) (τ.me.map (·.1)) τ.me):LeX E nt σ τ:=fun _ _ _ b=>Le.of ps a h1 c b
theorem LeX.refl (E:Env)(nt:Nat)(σ:AS):LeX E nt σ σ:=fun _ _ _ _=>Le.refl _ _
theorem LeX.trans {a b c:AS}(h:LeX E nt a b)(k:LeX E nt b c):LeX E nt a c:=fun cx j g f=>(h cx j g f).trans (k cx j g f)
theorem Le.adopt_aux {cx:Cx}{γ:Gam}{a:Act}{w:World}(h:StG cx γ σ a w){r ty sz:Nat}(n:σ.find r=none) :
  (∀ av v,Rep w (Sg cx.S0 cx.w0.heap.size γ) γ av v->Rep w (Sg cx.S0 cx.w0.heap.size (γ.set r (some (none,.slice none 0 0)))) (γ.set r (some (none,.slice none 0 0))) av v) /\
  (∀ i x,γ i=some x->i≠r)/\(∀ b,own (γ.set r (some (none,.slice none 0 0))) b->own γ b):=by
 have k:γ r=none:=by have:=h.me r;rw [n] at this;exact this
 have g:∀ i x,γ i=some x->i≠r:=fun i x f e=>by subst e;rw [k] at f;cases f
 have c:∀ b,own (γ.set r (some (none,.slice none 0 0))) b->own γ b:=fun b ⟨i,s,hi,hm⟩=>by
  by_cases j:i=r
  ·subst j;rw [aF] at hi;injection hi with hi;subst hi;exact (Qh (s:=.slice none 0 0) rfl hm).elim
  ·rw [aG _ _ _ j] at hi;exact ⟨i,s,hi,hm⟩
 refine ⟨fun av v m=>(m.mono (aQ _) (fun b l _=>⟨rfl,?_⟩)).gam (fun i x f=>aH ?_),g,c⟩
 ·rcases l with l|⟨h1,q⟩
  ·exact aH l
  ·exact aO ⟨h1,fun p=>q (c b p)⟩
 ·rw [aG _ _ _ (g i x f)];exact f
theorem zpw {w:World}{S:Nat->Prop}{γ:Gam}{B:Nat}:B8 w S γ B (some (none,.slice none 0 0)) (.row ty sz []) :=
 ⟨.slice none 0 0,[],rfl,rfl,World.ownsRow_nil w _ _ _,fun k a=>absurd a (by simp),fun k a=>absurd a (by simp),fun u b=>absurd b (by simp)⟩
def AS.adopt (σ:AS)(t r ty sz:Nat):AS:=⟨(t,.row r)::σ.tm,(r,.row ty sz [])::σ.me⟩
theorem LeX.adopt (t r ty sz:Nat)(D:σ.get t=.nils)(F:σ.find r=none):LeX E nt σ (σ.adopt t r ty sz):=fun cx N M C a w ⟨γ,h⟩=>by
 obtain ⟨B,A,k⟩:=Le.adopt_aux (ty:=ty) (sz:=sz) h F;refine ⟨γ.set r (some (none,.slice none 0 0)),fun u=>?_,fun i=>?_,fun i j b s z hi f mi mj=>?_,fun b c=>h.ge b (k b c),h.below,h.size,h.defers.gam (fun b c=>k b c) C,h.gh,fun b c=>by obtain ⟨L,J,I⟩:=h.fr b c;exact ⟨fun m=>L (k b m),J,I⟩,h.dr⟩
 ·by_cases q:t=u
  ·subst q;have e:(σ.adopt t r ty sz).get t=.row r:=by simp [AS.adopt,AS.get,lkV]
   rw [e];have:=h.tm t;rw [D] at this;rw [this.nils_inv];exact .row (aF _ _ _) (fun g s e _=>by injection e with e;injection e with _ e)
  ·have e:(σ.adopt t r ty sz).get u=σ.get u:=by
    unfold AS.adopt AS.get;simp only [lkV];cases c:aC t u with
    |true=>exact absurd (aB c) q
    |false=>rfl
   rw [e];exact B _ _ (h.tm u)
 ·by_cases hi:r=i
  ·subst hi;have e:(σ.adopt t r ty sz).find r=some (.row ty sz []):=by simp [AS.adopt,aT,lkE]
   rw [e];exact ⟨_,aF _ _ _,zpw⟩
  ·have e:(σ.adopt t r ty sz).find i=σ.find i:=by
    unfold AS.adopt aT;simp only [lkE];cases c:aC r i with
    |true=>exact absurd (aB c) hi
    |false=>rfl
   rw [e,aG _ _ _ (Ne.symm hi)];have:=h.me i;cases v:σ.find i with
   |none=>rw [v] at this;exact this
   |some en =>
    rw [v] at this;obtain ⟨x,l,G⟩:=this;refine ⟨x,l,G.move (aQ _) (fun b c _=>⟨rfl,?_⟩) (fun i x l=>aH (by rw [aG _ _ _ (A i x l)];exact l)) (fun _ _=>rfl)⟩;rcases c with c|⟨h1,H⟩
    ·exact aH c
    ·exact aO ⟨h1,fun m=>H (k b m)⟩
 ·have p:i≠r:=fun e=>by subst e;rw [aF] at hi;injection hi with hi;subst hi;exact Qh (s:=.slice none 0 0) rfl mi
  have n:j≠r:=fun e=>by subst e;rw [aF] at f;injection f with f;subst f;exact Qh (s:=.slice none 0 0) rfl mj
  rw [aG _ _ _ p] at hi;rw [aG _ _ _ n] at f;exact h.inj i j b s z hi f mi mj
def AS.adoptC (σ:AS)(id j r ty sz bt:Nat)(cs:List AV):AS:=⟨σ.tm,(id,.box bt (cs.set j (.row r)))::(r,.row ty sz [])::σ.me⟩
theorem LeX.adoptC (id j r ty sz bt:Nat)(cs:List AV)(k:σ.find id=some (.box bt cs))(f:cs[j]? = some .nils)(I:σ.find r=none):LeX E nt σ (σ.adoptC id j r ty sz bt cs):=fun cx Y X N a w ⟨γ,h⟩=>by
 obtain ⟨H,M,z⟩:=Le.adopt_aux (ty:=ty) (sz:=sz) h I;have C:id≠r:=fun e=>by subst e;rw [I] at k;cases k
 have Q:∀ b,Sg cx.S0 cx.w0.heap.size γ b->Sg cx.S0 cx.w0.heap.size (γ.set r (some (none,.slice none 0 0))) b:=fun b c=>c.elim aH (fun ⟨h1,S⟩=>aO ⟨h1,fun B=>S (z b B)⟩)
 refine ⟨γ.set r (some (none,.slice none 0 0)),fun u=>H _ _ (h.tm u),fun i=>?_,fun i j b s L hi f mi mj=>?_,fun b c=>h.ge b (z b c),h.below,h.size,h.defers.gam (fun b c=>z b c) N,h.gh,fun b c=>by obtain ⟨W,V,U⟩:=h.fr b c;exact ⟨fun B=>W (z b B),V,U⟩,h.dr⟩
 ·by_cases hi:id=i
  ·subst hi;have e:(σ.adoptC id j r ty sz bt cs).find id=some (.box bt (cs.set j (.row r))):=by simp [AS.adoptC,aT,lkE]
   rw [e];have hm:=h.me id;rw [k] at hm;obtain ⟨x,n,g,vs,P,c,A,p,q⟩:=hm;refine ⟨x,by rw [aG _ _ _ C];exact n,g,vs,P,c,by simpa using A,fun m hm=>?_,q⟩;have t:m<cs.length:=by simpa using hm
   rw [getElem_set];by_cases v:j=m
   ·subst v;rw [if_pos rfl];have:=p j t;rw [(List.getElem?_eq_some_iff.1 f).2] at this;rw [this.nils_inv];exact .row (aF _ _ _) (fun g s e _=>by injection e with e;injection e with _ e)
   ·rw [if_neg v];exact H _ _ (p m t)
  ·by_cases l:r=i
   ·subst l;have e:(σ.adoptC id j r ty sz bt cs).find r=some (.row ty sz []):=by
     unfold AS.adoptC aT;simp only [lkE];cases c:aC id r with
     |true=>exact absurd (aB c) hi
     |false=>simp
    rw [e];exact ⟨_,aF _ _ _,zpw⟩
   ·have e:(σ.adoptC id j r ty sz bt cs).find i=σ.find i:=by
     unfold AS.adoptC aT;simp only [lkE];cases c:aC id i with
     |true=>exact absurd (aB c) hi
     |false =>
      cases G:aC r i with
      |true=>exact absurd (aB G) l
      |false=>rfl
    rw [e,aG _ _ _ (Ne.symm l)];have:=h.me i;cases J:σ.find i with
    |none=>rw [J] at this;exact this
    |some en =>
     rw [J] at this;obtain ⟨x,n,O⟩:=this;exact ⟨x,n,O.move (aQ _) (fun b c _=>⟨rfl,Q b c⟩) (fun i x n=>aH (by rw [aG _ _ _ (M i x n)];exact n)) (fun _ _=>rfl)⟩
 ·have F:i≠r:=fun e=>by subst e;rw [aF] at hi;injection hi with hi;subst hi;exact Qh (s:=.slice none 0 0) rfl mi
  have D:j≠r:=fun e=>by subst e;rw [aF] at f;injection f with f;subst f;exact Qh (s:=.slice none 0 0) rfl mj
  rw [aG _ _ _ F] at hi;rw [aG _ _ _ D] at f;exact h.inj i j b s L hi f mi mj
end Go.Proofs.YtkoamfnbbhfaiaaGreatDoor
