/-
  The abstract machine, part A: texts of our own, the same for each claim.
-/
import Derived.WalkKit
import Derived.Maps.OwnOps
import Derived.Maps.Views
import Derived.Laws.StructEq
set_option linter.unusedVariables false
namespace Go.AM
theorem bf{a b c d:Prop}(h:a\/b)(f:a->c)(g:b->d):c\/d:=by grind
abbrev zh:=List UInt8
inductive Ty where
 | int (k:IntKind) | bool | str | sl (e:Ty) | nil | cons (a b:Ty) | expr
 deriving DecidableEq
inductive Expr where
 | mk (kind:Int) (num:Bool×List Int×List Int×Unit) (name:zh) (kids:List Expr)
def Expr.kind:Expr->Int | .mk k _ _ _=>k
def Expr.num:Expr->Bool×List Int×List Int×Unit | .mk _ n _ _=>n
def Expr.name:Expr->zh | .mk _ _ n _=>n
def Expr.kids:Expr->List Expr | .mk _ _ _ l=>l
@[reducible] def den:Ty->Type
 | .int _=>Int
 | .bool=>Bool
 | .str=>zh
 | .sl e=>List (den e)
 | .nil=>Unit
 | .cons a b=>den a×den b
 | .expr=>Expr
abbrev u32:Ty:=.int .u32
abbrev i64:Ty:=.int .i64
abbrev QP:Ty:=.cons .bool (.cons (.sl u32) (.cons (.sl u32) .nil))
abbrev oP:Ty:=.cons i64 (.cons QP (.cons .str (.cons (.sl .expr) .nil)))
def Expr.C8(e:Expr):den oP:=(e.kind,e.num,e.name,e.kids,())
def Expr.J4(x:den oP):Expr:=.mk x.1 x.2.1 x.2.2.1 x.2.2.2.1
def Ty.size:Ty->Nat
 | .int _ | .bool | .str | .sl _=>1
 | .nil=>0
 | .cons a b=>a.size+b.size
 | .expr=>6
def Ty.isAgg:Ty->Bool
 | .nil | .cons _ _ | .expr=>true
 | _=>false
def zd:(τ:Ty)->den τ
 | .int _=>(0:Int)
 | .bool=>false
 | .str=>([]:zh)
 | .sl e=>([]:List (den e))
 | .nil=>()
 | .cons a b=>(zd a,zd b)
 | .expr=>.mk 0 (false,[],[],()) [] []
inductive D where
 | zj (τ:Ty) (x:den τ)
 | tight (e:Ty) (l:List (den e)) (ne:Bool)
 | bu (e:Ty) (l:List (den e)) (b:Bool)
 | zW | wJ | q8 | wo | qC
 | ptr (b off:Nat)
 | qf (τ:Ty) (x:den τ)
 | wB (b q7:Nat) (e:Ty) (idx off:Nat)
 | ms (b q7:Nat) (e:Ty) (off len:Nat)
 | zK (f:Nat) (cap:List D)
 | agg (cs:List D)
 | jC (vs:List D)
 | iface (t:Nat) (d:D)
 | lr
 | ja (b T:Nat)
 | yA (T:Nat)
 | w8 (b:Nat)
 | QZ (l:List Int)
inductive vX where
 | dead
 | var (d:D)
 | arr (q7:Nat) (e:Ty) (xs:List (den e))
abbrev St:=List vX
inductive T(α:Type) where
 | ret (a:α)
 | ite (b:Bool) (t e:T α)
 | zb (p:Prop) (t:T α)
 | fail
namespace T
variable {α β:Type}
def bind:T α->(α->T β)->T β
 | ret a,k=>k a
 | ite b t e,k=>ite b (t.bind k) (e.bind k)
 | zb p t,k=>zb p (t.bind k)
 | fail,_=>fail
def QV:Option α->T α
 | some a=>ret a
 | none=>fail
def leads:T α->α->Prop
 | ret a,x=>a=x
 | ite b t e,x=>(b=true/\t.leads x)\/(b=false/\e.leads x)
 | zb p t,x=>p/\t.leads x
 | fail,_=>False
def wp(Q:α->Prop):T α->Prop
 | ret a=>Q a
 | ite b t e=>(b=true->t.wp Q)/\(b=false->e.wp Q)
 | zb p t=>p/\t.wp Q
 | fail=>False
end T
abbrev Fr:=List (Nat×Option D)
def Fr.get:Fr->Nat->Option D
 | [],_=>none
 | (t,d)::r,s=>bif Nat.beq t s then d else Fr.get r s
def Fr.put(fr:Fr)(dst:Option Nat)(d:Option D):Fr :=
 match dst with
 | some t=>(t,d)::fr
 | none=>fr
abbrev Kn:=List (Nat×Option Bool)
def Kn.get:Kn->Nat->Option Bool
 | [],_=>none
 | (t,b)::r,s=>bif Nat.beq t s then b else Kn.get r s
inductive ZI where
 | ret (ds:List D)
 | wN (d:D)
inductive o9 where
 | rp (τ:Ty) | im (τ:Ty)
inductive mC where
 | ty (τ:Ty) | rp (τ:Ty) | zK (f:Nat) (caps:List o9)
structure Sig where
 params:List mC
 res:List Ty
structure Ctx where
 P:Program
 xid:Nat
 sig:Nat->List D->Option Sig
 fn:Nat->List D->St->T (ZI×St)
 ro:Nat->Bool
 /-- Blocks that a call leaves as they are. -/
 free:Nat->List D->St->List Nat
 E7:∀ (g:Nat) (args:List D) (st:St) (rs:ZI) (zg:St) (b:Nat),(fn g args st).leads (rs,zg)->b∈free g args st->zg[b]? = st[b]?
 /-- What a call touches that lays no new block. -/
 ec:Nat->List D->Option (List Nat)
 GA:∀ (g:Nat) (args:List D) (U:List Nat) (st:St) (rs:ZI) (zg:St),ec g args=some U->(fn g args st).leads (rs,zg) ->
  zg.length=st.length/\(∀ b,b<st.length->b ∉ U->zg[b]? = st[b]?)/\∀ x,(fn g args (st++[x])).leads (rs,zg++[x])
inductive Ex where
 | normal | exit (id:Nat) | ret | wN (d:D)
class lf where
 u8:Nat
def OL[lf](e:Ty)(t:Nat):Bool:=match e with
 | .int .u8=>Nat.beq t lf.u8
 | _=>true
def OG[lf](e:Ty)(t:Nat):Prop:=e=.int .u8->t=lf.u8
section ops
variable (c:Ctx)
variable [lf]
def bR(t:Nat):Option Nat:=(c.P.info? t).map (·.size)
def cv(t:Nat):Option Nat:=(c.P.info? t).map (·.bytes)
def V4(t:Nat):Option Bool:=match c.P.underlying t with | some (.struct _) | some (.array _ _)=>some true | some _=>some false | none=>none
def yR:List (Option Ty)->Option Ty
 | []=>some .nil
 | some a::r=>match yR r with | some b=>some (.cons a b) | none=>none
 | none::_=>none
def ZW:Nat->Nat->Option Ty
 | 0,_=>none
 | n+1,t=>bif Nat.beq t c.xid then some .expr else
  match c.P.underlying t with
  | some (.int k)=>some (.int k)
  | some .bool=>some .bool
  | some .string=>some .str
  | some (.slice e)=>match ZW n e with | some a=>some (.sl a) | none=>none
  | some (.struct fs)=>yR (fs.toList.map λf=>ZW n f.type)
  | some (.array k e)=>yR (List.replicate k (ZW n e))
  | _=>none
def vU(t:Nat)(τ:Ty):Bool:=OL τ t&&(match bR c t with | some n=>Nat.beq n τ.size | none=>false)&&(match V4 c t with | some b=>b==τ.isAgg | none=>false)
def eV:Value->Option D
 | .int k n=>some (.zj (.int k) n)
 | .bool b=>some (.zj .bool b)
 | .string s=>some (.zj .str s.data.toList)
 | .slice none 0 0=>some .zW
 | .pointer none=>some .wJ
 | .nilFunc=>some .wo
 | .nilIface=>some .q8
 | .map none=>some .qC
 | _=>none
def wD:List (Option D)->Option (List D)
 | []=>some []
 | some d::r=>match wD r with | some l=>some (d::l) | none=>none
 | none::_=>none
def pU:Value->Option D
 | .agg cs=>match wD (cs.toList.map eV)with | some l=>some (.agg l) | none=>none
 | v=>eV v
def flat:(τ:Ty)->den τ->List D
 | .int k,x=>[.zj (.int k) x]
 | .bool,x=>[.zj .bool x]
 | .str,x=>[.zj .str x]
 | .sl e,x=>[.zj (.sl e) x]
 | .nil,_=>[]
 | .cons a b,x=>flat a x.1++flat b x.2
 | .expr,x=>[.zj i64 x.kind,.zj .bool x.num.1,.zj (.sl u32) x.num.2.1,.zj (.sl u32) x.num.2.2.1,.zj .str x.name,.zj (.sl .expr) x.kids]
def zC:D->List D
 | .zj τ x=>flat τ x
 | .agg cs=>cs
 | .jC _=>[]
 | .QZ _=>[]
 | d=>[d]
def D.isAgg:D->Bool
 | .agg _=>true
 | _=>false
def D.vN:D->Bool
 | .zj τ _=>τ.isAgg
 | .agg _=>true
 | _=>false
def D.z0A:D->Bool
 | .zj τ _=>τ.isAgg
 | .agg _=>true
 | _=>false
def kD:List D->Option Nat
 | .yA T::_=>some T
 | .ja _ T::_=>some T
 | _=>none
def D.typed:D->Option Nat
 | .agg l=>kD l
 | _=>none
def dE(d d':D):Bool:=match d'.typed with
 | none=>true
 | some T=>match d.typed with | some T'=>Nat.beq T T' | none=>false
def D.tk:D->Bool
 | .QZ _=>true
 | _=>false
def D.wR:D->Bool
 | .jC _=>true
 | _=>false
def xu{a b:Ty}(x:den a):Option (den b):=if h:a=b then some (h▸x)else none
def bG(e:Ty):Nat->Ty
 | 0=>.nil
 | n+1=>.cons e (bG e n)
def U0:Ty->Option (Ty×Nat)
 | .cons e r=>match r with
  | .nil=>some (e,1)
  | r=>match U0 r with
   | some (e',n)=>bif decide (e=e')then some (e,n+1)else none
   | none=>none
 | _=>none
def p7(e:Ty):(τ:Ty)->den τ->Nat->den e
 | .cons _ _,x,0=>match(xu x.1:Option (den e))with | some y=>y | none=>zd e
 | .cons _ b,x,i+1=>p7 e b x.2 i
 | _,_,_=>zd e
def IZ{e:Ty}(f:Nat->den e):(n:Nat)->Nat->den (bG e n)
 | 0,_=>()
 | n+1,k=>(f k,IZ f n (k+1))
def gO(τ:Ty):D->Option (den τ)
 | .zj σ x=>xu x
 | .tight e l _=>xu (a:=.sl e) l
 | .bu e l _=>xu (a:=.sl e) l
 | .zW=>match τ with | .sl e=>some ([]:List (den e)) | _=>none
 | _=>none
def vO:(τ:Ty)->List D->Option (den τ×List D)
 | .int k,d::r=>match gO (.int k) d with | some x=>some (x,r) | none=>none
 | .bool,d::r=>match gO .bool d with | some x=>some (x,r) | none=>none
 | .str,d::r=>match gO .str d with | some x=>some (x,r) | none=>none
 | .sl e,d::r=>match gO (.sl e) d with | some x=>some (x,r) | none=>none
 | .nil,r=>some ((),r)
 | .cons a b,r=>match vO a r with
  | some (x,r')=>match vO b r' with | some (y,r'')=>some ((x,y),r'') | none=>none
  | none=>none
 | .expr,[]=>none
 | .expr,d::r=>match gO i64 d with
  | none=>none
  | some k=>match r with
   | d1::d2::d3::d4::d5::r' =>
    match gO .bool d1,gO (.sl u32) d2,gO (.sl u32) d3,gO .str d4,gO (.sl .expr) d5 with
    | some a,some n,some m,some s,some l=>some (Expr.mk k (a,n,m,()) s l,r')
    | _,_,_,_,_=>none
   | _=>none
 | _,[]=>none
def gF(τ:Ty)(d:D):Option (den τ) :=
 match d with
 | .zj σ x=>xu x
 | .QZ _=>none
 | d=>bif (d.isAgg==τ.isAgg) && !d.wR then match vO τ (zC d)with
   | some (x,[])=>some x
   | _=>none
  else none
def ef(st:St):D->T D
 | .ms b q7 e off len=>match st[b]? with
  | some (.arr uF e' xs)=>if h:e'=e then .zb (q7=uF) (.ret (.zj (.sl e) (h▸((xs.take (off+len)).drop off:List (den e')))))else .fail
  | _=>.fail
 | d=>.ret d
def QC(st:St):List D->T (List D)
 | []=>.ret []
 | d::r=>(ef st d).bind λx=>(QC st r).bind λl=>.ret (x::l)
def snap(st:St):D->T D
 | .agg cs=>(QC st cs).bind λl=>.ret (.agg l)
 | d=>ef st d
def n4(st:St)(τ:Ty)(d:D):T (den τ):=(snap st d).bind λx=>.QV (gF τ x)
def QB:D->Bool | .ms .. => true | _=>false
inductive j5 where
 | val (t:T (Option D))
 | rd (k:St->T (Option D))
 | wr (k:St->T (Option D×St))
def val(d:D):j5:=.val (.ret (some d))
def MW(d:Option D):j5:=match d with | some d=>.val (.ret (some d)) | none=>.val .fail
def bad:j5:=.val .fail
def Oo(t:Nat):Bool:=match c.P.underlying t with
 | some (.struct fs)=>match fs[0]? with
  | some fd=>match c.P.underlying fd.type with | some (.pointer e)=>Nat.beq e t | _=>false
  | none=>false
 | _=>false
def Cd(t:Nat)(d:D):D:=match d with
 | .agg (.wJ::r)=>bif Oo c t then .agg (.yA t::r)else .agg (.wJ::r)
 | d=>d
def oS(t:Nat):Option D:=match c.P.info? t with
 | some i=>match i.zero with | some z=>(match pU z with | some d=>some (Cd c t d) | none=>none) | none=>none
 | none=>none
def Xe(l:List D)(off n:Nat):Option (List D) :=
 bif Nat.ble (off+n) l.length then some ((l.drop off).take n)else none
def Jj(t:Nat)(d:D)(off:Nat):Option D :=
 match V4 c t with
 | some true=>match bR c t with
  | none=>none
  | some n=>bif (Nat.beq off 0)&&Nat.beq n (zC d).length&&d.z0A then some d
   else match Xe (zC d) off n with | some l=>some (.agg l) | none=>none
 | some false=>(zC d)[off]?
 | none=>none
def ZT(t:Nat)(d:D)(off:Nat)(x:D):Option D :=
 match bR c t with
 | none=>none
 | some n=>bif Nat.blt 0 n&&Nat.beq n (zC x).length&&Nat.ble (off+n) (zC d).length then
   bif Nat.beq n (zC d).length then(bif d.vN && !x.vN then some (.agg (zC x))else some x)
   else some (.agg ((zC d).take off++zC x++(zC d).drop (off+n)))
  else none
def mj(t:Nat)(a:Option D):j5:=match a with
 | some (.qf τ x)=>bif vU c t τ then val (.zj τ x)else bad
 | some (.ptr b off)=>.rd λst=>match st[b]? with
  | some (.var d)=>bif d.tk then .fail else match Jj c t d off with | some r=>.ret (some r) | none=>.fail
  | _=>.fail
 | some (.wB b q7 e idx off)=>.rd λst=>match st[b]? with
  | some (.arr uF e' xs)=>bif decide (e'=e)then
    .zb (q7=uF/\idx<xs.length) (match Jj c t (.zj e' (xs.getD idx (zd e'))) off with | some r=>.ret (some r) | none=>.fail)
   else .fail
  | _=>.fail
 | _=>bad
def se(t:Nat)(a:Option D)(v:Option D):j5:=match a,v with
 | some (.ptr b off),some x=>.wr λst=>match st[b]? with
  | some (.var d)=>match ZT c t d off x with | some r=>bif dE d r then .ret (none,st.set b (.var r))else .fail | none=>.fail
  | _=>.fail
 | some (.wB b q7 e idx off),some x=>.wr λst=>match st[b]? with
  | some (.arr uF e' xs)=>bif decide (e'=e)then
    .zb (q7=uF/\idx<xs.length) (match ZT c t (.zj e' (xs.getD idx (zd e'))) off x with
     | some r=>match gF e' r with | some y=>.ret (none,st.set b (.arr uF e' (xs.set idx y))) | none=>.fail
     | none=>.fail)
   else .fail
  | _=>.fail
 | _,_=>bad
def eO:(τ:Ty)->den τ->Nat->Option (D×Nat×Nat)
 | .cons a _,x,0=>some (.qf a x.1,0,a.size)
 | .cons a b,x,n+1=>match eO b x.2 n with | some (d,o,s)=>some (d,a.size+o,s) | none=>none
 | .expr,x,0=>some (.qf i64 x.kind,0,1)
 | .expr,x,1=>some (.qf QP x.num,1,3)
 | .expr,x,2=>some (.qf .str x.name,4,1)
 | .expr,x,3=>some (.qf (.sl .expr) x.kids,5,1)
 | _,_,_=>none
def rX(s f:Nat):Option (Nat×Nat):=match c.P.underlying s with
 | some (.struct fs)=>match fs[f]? with
  | some fd=>match bR c fd.type with | some n=>bif Nat.beq n 0 then none else some (fd.offset,n) | none=>none
  | none=>none
 | _=>none
def fu(s f:Nat)(a:Option D):j5:=match rX c s f with
 | none=>bad
 | some (o,n)=>match a with
  | some (.qf τ x)=>match eO τ x f with
   | some (d,o',n')=>bif Nat.beq o o'&&Nat.beq n n' then val d else bad
   | none=>bad
  | some (.ptr b off)=>val (.ptr b (off+o))
  | some (.wB b q7 e idx off)=>val (.wB b q7 e idx (off+o))
  | _=>bad
def XR(s f:Nat)(a:Option D):j5:=match c.P.underlying s with
 | some (.struct fs)=>match fs[f]? with
  | some fd=>match a with
   | some d=>MW (bif d.vN then Jj c fd.type d fd.offset else none)
   | none=>bad
  | none=>bad
 | _=>bad
def asInt:Option D->Option (IntKind×Int)
 | some (.zj (.int k) n)=>some (k,n)
 | _=>none
def sI:Option D->Option zh
 | some (.zj .str s)=>some s
 | _=>none
def asBool:Option D->Option Bool
 | some (.zj .bool b)=>some b
 | _=>none
def b9(t:Nat):Option Nat:=match c.P.underlying t with | some (.slice e)=>some e | _=>none
def Pr(t:Nat):Option (Nat×Nat):=match c.P.underlying t with | some (.array n e)=>some (n,e) | _=>none
def sW(t:Nat)(x:Option D)(i:Int):j5:=match Pr c t,x with
 | some (n,et),some (.qf τ y)=>match U0 τ with
  | some (e,m)=>bif vU c et e&&Nat.beq n m then .val (.zb (0<=i/\i<(n:Int)) (.ret (some (.qf e (p7 e τ y i.toNat)))))else bad
  | none=>bad
 | _,_=>bad
def fV(t:Nat)(x i:Option D):j5:=match b9 c t,asInt i with
 | none,some (_,i)=>sW c t x i
 | some et,some (_,i)=>match x with
  | some (.zj (.sl e) l)=>bif vU c et e then .val (.zb (0<=i/\i<(List.length l:Int)) (.ret (some (.qf e (List.getD l i.toNat (zd e))))))else bad
  | some (.tight e l _)=>bif vU c et e then .val (.zb (0<=i/\i<(List.length l:Int)) (.ret (some (.qf e (List.getD l i.toNat (zd e))))))else bad
  | some (.ms b q7 e off len)=>bif vU c et e then .val (.zb (0<=i/\i<(len:Int)) (.ret (some (.wB b q7 e (off+i.toNat) 0))))else bad
  | _=>bad
 | _,_=>bad
def Wa(t:Nat)(x i:Option D):j5:=match asInt i,sI x,c.P.underlying t with
 | some (_,i),some s,some .string=>.val (.zb (0<=i/\i<(List.length s:Int)) (.ret (some (.zj (.int .u8) ((List.getD s i.toNat 0).toNat:Int)))))
 | _,_,_=>bad
def Bt(d:Int):Option (Option D)->Option Int
 | none=>some d
 | some x=>match asInt x with | some (_,i)=>some i | none=>none
def cx(l h:Int)(s:zh):zh:=(s.take h.toNat).drop l.toNat
def vw{e:Ty}(l h:Int)(s:List (den e)):List (den e):=(s.take h.toNat).drop l.toNat
def Wd(t:Nat)(x:Option D)(lo hi mx:Option (Option D)):j5:=match x with
 | some (.zj .str s)=>match c.P.underlying t,mx,Bt 0 lo,Bt (List.length s) hi with
  | some .string,none,some l,some h=>.val (.zb (0<=l/\l<=h/\h<=(List.length s:Int)) (.ret (some (.zj .str (cx l h s)))))
  | _,_,_,_=>bad
 | some (.zj (.sl e) s)=>match b9 c t,Bt 0 lo,Bt (List.length s) hi with
  | some et,some l,some h=>bif vU c et e then match mx with
    | none=>.val (.zb (0<=l/\l<=h/\h<=(List.length s:Int)) (.ret (some (.zj (.sl e) (vw l h s)))))
    | some m=>match asInt m with
     | some (_,m)=>bif hi.isSome then .val (.zb (0<=l/\l<=h/\h=m/\h<=(List.length s:Int)) (.ret (some (.tight e (vw l h s) false))))else bad
     | none=>bad
   else bad
  | _,_,_=>bad
 | some (.tight e s _)=>match b9 c t,mx,Bt 0 lo,Bt (List.length s) hi with
  | some et,none,some l,some h=>bif vU c et e then .val (.zb (0<=l/\l<=h/\h<=(List.length s:Int)) (.ret (some (.zj (.sl e) (vw l h s)))))else bad
  | _,_,_,_=>bad
 | some (.ms b q7 e off len)=>match b9 c t,mx,Bt 0 lo,Bt len hi with
  | some et,none,some l,some h=>bif vU c et e then .val (.zb (0<=l/\l<=h/\h<=(len:Int)) (.ret (some (.ms b q7 e (off+l.toNat) (h.toNat-l.toNat)))))else bad
  | _,_,_,_=>bad
 | _=>bad
def ib(k:IntKind)(n:Int):j5:=val (.zj (.int k) n)
def bb(b:Bool):j5:=val (.zj .bool b)
def eS(k:IntKind)(f:BitVec k.bits->BitVec k.bits->BitVec k.bits)(x y:Int):Int:=k.wrap (f (BitVec.ofInt k.bits x) (BitVec.ofInt k.bits y)).toNat
def rO(k:IntKind)(a b:Int):Int:=k.wrap (a*2 ^ (min b.toNat k.bits))
def yM(k:IntKind)(a b:Int):Int:=Int.fdiv a (2 ^ (min b.toNat k.bits))
def J3(op:BinOp)(k:IntKind)(a b:Int):j5:=match op with
 | .add=>ib k (k.wrap (a+b))
 | .sub=>ib k (k.wrap (a-b))
 | .mul=>ib k (k.wrap (a*b))
 | .quo=>.val (.zb (b≠0) (.ret (some (.zj (.int k) (k.wrap (a.tdiv b))))))
 | .rem=>.val (.zb (b≠0) (.ret (some (.zj (.int k) (a.tmod b)))))
 | .and=>ib k (eS k (· &&& ·) a b)
 | .or=>ib k (eS k (· ||| ·) a b)
 | .xor=>ib k (eS k (· ^^^ ·) a b)
 | .eql=>bb (a==b)
 | .neq=>bb (a != b)
 | .lss=>bb (decide (a<b))
 | .leq=>bb (decide (a<=b))
 | .gtr=>bb (decide (b<a))
 | .geq=>bb (decide (b<=a))
 | _=>bad
def qb(a b:zh):Bool:=a==b
def strLt(a b:zh):Bool:=Op.bytesLess a b
def cat(a b:zh):zh:=a++b
def Ja(op:BinOp)(a b:zh):j5:=match op with
 | .add=>.val (.zb (a.length+b.length<=4611686018427387904) (.ret (some (.zj .str (cat a b)))))
 | .eql=>bb (qb a b)
 | .neq=>bb (!qb a b)
 | .lss=>bb (strLt a b)
 | .leq=>bb (strLt a b||qb a b)
 | .gtr=>bb (!(strLt a b||qb a b))
 | .geq=>bb (!strLt a b)
 | _=>bad
def Ee(op:BinOp)(a b:Bool):j5:=match op with
 | .eql=>bb (a==b)
 | .neq=>bb (!(a==b))
 | _=>bad
def rZ:BinOp->Bool
 | .shl | .shr=>true
 | _=>false
def L2(a:Ty)(t:Nat):Bool:=match a,c.P.underlying t with
 | .int k,some (.int k')=>decide (k=k')
 | .bool,some .bool=>true
 | .str,some .string=>true
 | _,_=>false
def nu:Ty->Nat->List Field->Bool
 | .nil,_,[]=>true
 | .cons a r,off,f::fs=>decide (f.name ≠ "_")&&(Nat.beq f.offset off&&(L2 c a f.type&&nu r (off+1) fs))
 | _,_,_=>false
def FZ:(τ:Ty)->den τ->den τ->Bool
 | .int _,(a:Int),(b:Int)=>a==b
 | .bool,(a:Bool),(b:Bool)=>a==b
 | .str,(a:zh),(b:zh)=>qb a b
 | .cons a r,(x:den a×den r),(y:den a×den r)=>FZ a x.1 y.1&&FZ r x.2 y.2
 | _,_,_=>true
def Zs(τ:Ty)(t:Nat):Bool:=match c.P.underlying t with
 | some (.struct fs)=>nu c τ 0 fs.toList&&(!(c.P.stoodInHeld t) && !(c.P.eqGuardType c.P.depth t))
 | _=>false
def Fz(op:BinOp)(t:Nat)(x y:Option D):j5:=match x,y with
 | some (.zj τ a),some (.zj σ b)=>match(xu b:Option (den τ))with
  | some b=>bif τ.isAgg&&Zs c τ t then(match op with
   | .eql=>bb (FZ τ a b)
   | .neq=>bb (!FZ τ a b)
   | _=>bad)else bad
  | none=>bad
 | _,_=>bad
def tE(op:BinOp)(t:Nat)(x y:Option D):j5:=match asInt x,asInt y with
 | some (k,a),some (k',b)=>match op with
  | .shl=>.val (.zb (0<=b) (.ret (some (.zj (.int k) (rO k a b)))))
  | .shr=>.val (.zb (0<=b) (.ret (some (.zj (.int k) (yM k a b)))))
  | op=>bif decide (k=k')then J3 op k a b else bad
 | _,_=>match sI x,sI y with
  | some a,some b=>bif rZ op then bad else Ja op a b
  | _,_=>match c.P.underlying t,asBool x,asBool y with
   | some .bool,some a,some b=>Ee op a b
   | _,_,_=>Fz c op t x y
def XP(op:BinOp)(t:Nat)(x:Option D):j5:=match c.P.underlying t with
 | some (.interface _)=>match op,x with
  | .eql,some .q8=>bb true
  | .eql,some (.iface _ _)=>bb false
  | .neq,some .q8=>bb false
  | .neq,some (.iface _ _)=>bb true
  | _,_=>bad
 | _=>bad
def cY(x:Option D)(at':Nat)(ok:Bool):j5:=match c.P.underlying at' with
 | some (.interface _)=>bad
 | none=>bad
 | some _=>match x with
  | some (.iface t d)=>bif Nat.beq t at'&&ok then val (.jC [d,.zj .bool true])else bad
  | _=>bad
def Wn(op:BinOp)(t:Nat)(x:Option D)(z:j5):j5:=match c.P.underlying t with
 | some (.slice _)=>match op,x with
  | .eql,some .zW=>bb true
  | .eql,some (.bu _ _ b)=>bb (!b)
  | .neq,some .zW=>bb false
  | .neq,some (.bu _ _ b)=>bb b
  | _,_=>z
 | _=>z
def Wr(op:BinOp)(t:Nat)(x:Option D)(z:j5):j5:=match c.P.underlying t with
 | some (.pointer _)=>match op,x with
  | .eql,some .wJ=>bb true
  | .eql,some (.ptr _ _)=>bb false
  | .eql,some (.qf _ _)=>bb false
  | .neq,some .wJ=>bb false
  | .neq,some (.ptr _ _)=>bb true
  | .neq,some (.qf _ _)=>bb true
  | _,_=>z
 | _=>z
def J1(op:BinOp)(t:Nat)(p:Operand)(x y:Option D):j5:=match p with
 | .const .nilIface=>XP c op t x
 | .const (.slice none 0 0)=>Wn c op t x (tE c op t x y)
 | .const (.pointer none)=>Wr c op t x (tE c op t x y)
 | _=>tE c op t x y
def Dc(op:UnOp)(x:Option D):j5:=match op with
 | .neg=>match asInt x with | some (k,n)=>ib k (k.wrap (0-n)) | none=>bad
 | .not=>match asBool x with | some b=>bb (!b) | none=>bad
 | .xor=>match asInt x with | some (k,n)=>ib k (eS k (· ^^^ ·) (if k.signed then -1 else k.max) n) | none=>bad
 | _=>bad
def byteOf(n:Int):UInt8:=UInt8.ofNat n.toNat
def Vj(e:Ty):D->Option (List (den e))
 | .zj σ y=>xu (a:=σ) (b:=.sl e) y
 | .tight e' y _=>xu (a:=.sl e') (b:=.sl e) y
 | .zW=>some []
 | _=>none
def wz(l:List Int):zh:=l.map byteOf
def oa(e:Nat)(x:Option D):j5:=match c.P.underlying e,x with
 | some (.int .u8),some d=>.rd λst=>(ef st d).bind λy=>match Vj (.int .u8) y with
  | some l=>.ret (some (.zj .str (wz l)))
  | none=>.fail
 | _,_=>bad
def convertOp(s t:Nat)(x:Option D):j5:=match c.P.underlying s,c.P.underlying t with
 | some (.slice e),some .string=>oa c e x
 | some (.int _),some (.int k)=>match asInt x with | some (_,n)=>ib k (k.wrap n) | none=>bad
 | some .string,some .string=>match sI x with | some s=>val (.zj .str s) | none=>bad
 | _,_=>bad
def CF(t:Nat)(x:Option D):j5:=match c.P.underlying t with
 | some (.slice _)=>match x with
  | some (.zj (.sl _) l)=>ib .i64 (List.length l)
  | some (.tight _ l _)=>ib .i64 (List.length l)
  | some .zW=>ib .i64 0
  | some (.ms _ _ _ _ len)=>ib .i64 (len:Nat)
  | _=>bad
 | some .string=>match sI x with
  | some s=>ib .i64 (List.length s)
  | none=>bad
 | _=>bad
def ex(e:Ty){e':Ty}(xs:List (den e')):Option (List (den e)):=xu (a:=.sl e') (b:=.sl e) xs
def cS(e:Ty)(l ys:List (den e))(bytes:Nat)(st:St):T (Option D×St) :=
 .zb ((l.length+ys.length)*bytes<=140737488355328) (.ret (some (.ms st.length (l.length+ys.length) e 0 (l.length+ys.length)),st++[.arr (l.length+ys.length) e (l++ys)]))
def uv(e:Ty)(s:D)(ys:List (den e))(ne:Bool)(bytes:Nat)(st:St):T (Option D×St):=match s with
 | .zW=>bif ne then cS e [] ys bytes st else .ite ys.isEmpty (.ret (some s,st)) (cS e [] ys bytes st)
 | .tight e' l _=>match ex e l with
  | some l=>bif ne then cS e l ys bytes st else .ite ys.isEmpty (.ret (some s,st)) (cS e l ys bytes st)
  | none=>.fail
 | .bu e' l b=>match ex e l with
  | some []=>bif b then .zb (ys.length*bytes<=140737488355328) (.ret (some (.bu e ys true),st))else .fail
  | _=>.fail
 | .ms b q7 e' off len=>match st[b]? with
  | some (.arr uF e'' xs)=>match ex e xs with
   | some xs=>bif decide (e'=e)then .zb (q7=uF/\off=0/\len=xs.length/\(xs.length+ys.length)*bytes<=140737488355328)
     (.ret (some (.ms b (q7+ys.length) e 0 (len+ys.length)),st.set b (.arr (q7+ys.length) e (xs++ys))))else .fail
   | none=>.fail
  | _=>.fail
 | _=>.fail
def zeroOf(et:Nat)(e:Ty):Option (den e):=match oS c et with | some z=>gF e z | none=>none
def mS(t:Nat)(s x:Option D):j5:=match b9 c t with
 | none=>bad
 | some et=>match ZW c 20 et,cv c et with
  | some e,some bytes=>bif vU c et e&&Nat.blt 0 e.size&&Nat.blt 0 bytes&&(zeroOf c et e).isSome then match s,x with
    | some s,some x=>.wr λst=>(ef st x).bind λx=>match x with
     | .zj _ y=>match(xu y:Option (den (.sl e)))with
      | some ys=>uv e s ys false bytes st
      | none=>.fail
     | .tight _ y ne=>match ex e y with
      | some ys=>uv e s ys ne bytes st
      | none=>.fail
     | .zW=>uv e s [] false bytes st
     | _=>.fail
    | _,_=>bad
   else bad
  | _,_=>bad
def bytesOf(s:zh):List Int:=s.map λb=>((b.toNat:Nat):Int)
def l7(t t':Nat)(s x:Option D):j5:=match b9 c t with
 | none=>bad
 | some et=>match ZW c 20 et,cv c et,c.P.underlying t' with
  | some (.int .u8),some bytes,some .string=>bif vU c et (.int .u8)&&Nat.blt 0 bytes&&(zeroOf c et (.int .u8)).isSome then match s,x with
    | some s,some (.zj .str l)=>.wr λst=>uv (.int .u8) s (bytesOf l) false bytes st
    | _,_=>bad
   else bad
  | _,_,_=>bad
def K8(t:Nat)(n m:Option D):j5:=match b9 c t,asInt n,asInt m with
 | some et,some (_,n),some (_,m)=>match ZW c 20 et,cv c et with
  | some e,some bytes=>match zeroOf c et e with
   | some z=>bif vU c et e&&Nat.blt 0 e.size then
     .wr λst=>.zb (0<=n/\n<=m/\m*bytes<=140737488355328/\m<=140737488355328) (.ret (some (.ms st.length n.toNat e 0 n.toNat),st++[.arr n.toNat e (List.replicate n.toNat z)]))
    else bad
   | none=>bad
  | _,_=>bad
 | _,_,_=>bad
def QU(e:Ty):Nat->List (Nat×Option D)->Option (List (den e))
 | _,[]=>some []
 | i,(j,some d)::r=>bif Nat.beq i j then match gF e d,QU e (i+1) r with
   | some x,some l=>some (x::l)
   | _,_=>none
  else none
 | _,_=>none
def vj(t n:Nat)(ps:List (Nat×Option D)):j5:=match b9 c t with
 | none=>bad
 | some et=>match ZW c 20 et with
  | some e=>bif vU c et e&&Nat.beq n ps.length&&Nat.ble n 1000&&Nat.ble e.size 100&&(zeroOf c et e).isSome then match QU e 0 ps with
    | some l=>bif Nat.beq n 0&&Nat.blt 0 e.size then .wr λst=>.ret (some (.ms st.length 0 e 0 0),st++[.arr 0 e []])else val (.tight e l (!Nat.beq n 0))
    | none=>bad
   else bad
  | none=>bad
def nq(t:Nat)(z:j5):j5:=match b9 c t with
 | none=>z
 | some et=>match ZW c 20 et with
  | some e=>bif vU c et e&&(zeroOf c et e).isSome then val (.bu e [] true)else z
  | none=>z
def hZ(places:List (Nat×Nat)):List (Nat×Option D)->List D->Option (List D)
 | [],cells=>some cells
 | (i,some d)::r,cells=>match places[i]? with
  | some (off,n)=>bif !d.wR&&Nat.beq n (zC d).length&&Nat.ble (off+n) cells.length then
     hZ places r (cells.take off++zC d++cells.drop (off+n))else none
  | none=>none
 | _,_=>none
def XL(t:Nat)(ps:List (Nat×Option D)):j5:=match c.P.underlying t with
 | some (.struct fs)=>match oS c t,fs.toList.mapM (λf=>(c.P.info? f.type).map λi=>(f.offset,i.size))with
  | some (.agg z),some places=>match hZ places ps z with
   | some l=>val (.agg l)
   | none=>bad
  | _,_=>bad
 | some (.array k e)=>match oS c t,c.P.info? e with
  | some (.agg z),some ie=>match hZ ((List.range k).map λi=>(i*ie.size,ie.size)) ps z with
   | some l=>val (.agg l)
   | none=>bad
  | _,_=>bad
 | _=>bad
def ov(x:Option D)(i:Nat):j5:=match x with
 | some (.jC vs)=>MW vs[i]?
 | _=>bad
def jA:List D->D
 | [d]=>d
 | ds=>.jC ds
def Ty.scalar:Ty->Bool
 | .int _ | .bool | .str=>true
 | .cons a b=>a.scalar&&b.scalar
 | .nil=>true
 | _=>false
def iK:D->Bool
 | .zj τ _=>τ.scalar
 | _=>false
def eB(st:St)(τ:Ty):D->T D
 | .qf _ x=>match(xu x:Option (den τ))with | some y=>.ret (.qf τ y) | none=>.fail
 | .ptr b off=>match st[b]? with
  | some (.var d)=>match bif Nat.beq off 0 then gF τ d else none with | some y=>.ret (.qf τ y) | none=>.fail
  | _=>.fail
 | _=>.fail
def eN(st:St):o9->D->T D
 | .im τ,d=>(n4 st τ d).bind λx=>.ret (.zj τ x)
 | .rp τ,d=>eB st τ d
def yj(st:St):List o9->List D->T (List D)
 | [],[]=>.ret []
 | p::r,d::ds=>(eN st p d).bind λx=>(yj st r ds).bind λl=>.ret (x::l)
 | _,_=>.fail
def UC(st:St):mC->D->T D
 | .ty τ,d=>(n4 st τ d).bind λx=>.ret (.zj τ x)
 | .rp τ,d=>eB st τ d
 | .zK f caps,.zK f' l=>bif Nat.beq f f' then(yj st caps l).bind λl=>.ret (.zK f l)else .fail
 | _,_=>.fail
def ei(st:St):List mC->List D->T (List D)
 | [],[]=>.ret []
 | p::r,d::ds=>(UC st p d).bind λx=>(ei st r ds).bind λl=>.ret (x::l)
 | _,_=>.fail
def PN:D->Bool | .ptr .. => true | _=>false
def oj:D->Bool
 | .agg cs=>cs.any QB
 | .zK _ l=>l.any λd=>QB d||PN d
 | .ptr .. => true
 | d=>QB d
def CM(r:ZI×St):T (Option D):=match r with
 | (.ret ds,[])=>.ret (some (jA ds))
 | _=>.fail
def iI(r:ZI×St):T (Option D):=match r with
 | (.ret ds,[])=>bif ds.all iK then .ret (some (jA ds))else .fail
 | _=>.fail
def jt(g:Nat)(s:Sig)(args:List D):j5 :=
 bif !(args.any oj)then .val ((ei [] s.params args).bind λl=>(c.fn g l []).bind CM)
 else .rd λst=>(ei st s.params args).bind λl=>(c.fn g l []).bind iI
def c7(g:Nat)(args:List D):j5:=.wr λst=>(c.fn g args st).bind λr=>match r.1 with
 | .ret ds=>.ret (some (jA ds),r.2)
 | .wN _=>.fail
def jc(g:Nat):Nat:=bif Nat.ble 1000000 g then g % 1000000 else g
def v8{α:Type}(g:Nat)(l caps:List α):List α:=bif Nat.ble 1000000 g then caps++l else l++caps
def jE(f:Option D)(args:List (Option D)):j5:=match f,wD args with
 | some (.zK g caps),some l=>match c.sig (jc g) (v8 g l caps)with
  | some s=>jt c (jc g) s (v8 g l caps)
  | none=>c7 c (jc g) (v8 g l caps)
 | _,_=>bad
def HA(a b:Int):Int:=if b<a then b else a
def rI(a b:Int):Int:=if a<b then b else a
def Ze(f:Int->Int->Int)(args:List (Option D)):j5:=match args with
 | [x,y]=>match asInt x,asInt y with
  | some (k,a),some (k',b)=>bif decide (k=k')then ib k (f a b)else bad
  | _,_=>bad
 | _=>bad
def vW{α:Type}(off len:Nat)(xs l:List α):List α:=xs.take off++l.take len++xs.drop (off+min len l.length)
def EP(k:IntKind)(b q7 off len:Nat)(l:List Int)(st:St):T (Option D×St):=match st[b]? with
 | some (.arr uF e' xs)=>match ex (.int k) xs with
  | some xs=>.zb (q7=uF/\off+len<=List.length xs) (.ret (some (.zj i64 ((min len l.length:Nat):Int)),st.set b (.arr uF (.int k) (vW off len xs l))))
  | none=>.fail
 | _=>.fail
def Ky(t:Nat)(s x:Option D):j5:=match b9 c t with
 | some et=>match c.P.underlying et,bR c et,s,x with
  | some (.int k),some 1,some (.ms b q7 (.int k') off len),some d=>bif decide (k'=k)then .wr λst=>(ef st d).bind λy=>match Vj (.int k) y with
    | some l=>EP k b q7 off len l st
    | none=>.fail
   else bad
  | _,_,_,_=>bad
 | none=>bad
def cL(b:Builtin)(ts:List Nat)(args:List (Option D)):j5:=match b,ts,args with
 | .len,t::_,x::_=>CF c t x
 | .append,[t,t'],[s,x]=>bif Nat.beq t t' then mS c t s x else l7 c t t' s x
 | .copy,[t,_],[s,x]=>Ky c t s x
 | .min,_,args=>Ze HA args
 | .max,_,args=>Ze rI args
 | _,_,_=>bad
def wZ(fr:Fr):Operand->Option D
 | .tmp t=>fr.get t
 | .const v=>pU v
 | .global _=>none
 | .func f=>bif Nat.blt f 1000000 then some (.zK f [])else none
def lK(x:Option D):j5:=match x with
 | some (.ptr b o)=>val (.ptr b o)
 | some (.qf τ x)=>val (.qf τ x)
 | some (.wB b v e i o)=>val (.wB b v e i o)
 | some (.zK f l)=>val (.zK f l)
 | _=>bad
def Kl(x a b:Option D):j5:=match asBool x with
 | some x=>.val (.ite x (.ret a) (.ret b))
 | none=>bad
def iA(t:Nat)(x:Option D):j5:=match c.P.underlying t with
 | some (.interface _) | none=>bad
 | some _=>match x with | some d=>val (.iface t d) | none=>bad
def EM(x:Option D):j5:=match x with
 | some d=>bif d.wR||d.typed.isSome then bad else .wr λst=>.ret (some (.ptr st.length 0),st++[.var d])
 | none=>bad
def CH(t:Nat)(x:Option D):j5:=match x with
 | some (.zj τ x)=>val (.qf τ x)
 | some d=>match ZW c 20 t with
  | some τ=>match gF τ d with | some x=>val (.qf τ x) | none=>bad
  | none=>bad
 | none=>bad
def C6:Option Nat->Bool
 | some s=>c.ro s
 | none=>false
def Cu(t:Nat)(dst:Option Nat)(x:Option D):j5:=bif C6 c dst then CH c t x else EM x
def gE(t:Nat):j5:=match oS c t with
 | some d=>.wr λst=>.ret (some (.ptr st.length 0),st++[.var d])
 | none=>bad
def ZA:IntKind->Bool
 | .i64=>true
 | _=>false
def VL(t:Nat):Bool:=match c.P.underlying t with
 | some (.map k e)=>(match c.P.underlying k with | some (.int q)=>ZA q | _=>false)&&(match c.P.underlying e with | some .bool=>true | _=>false)&&(match c.P.info? e with | some i=>(match i.zero with | some (.bool z) => !z | _=>false) | none=>false)
 | _=>false
def RO(n:Int):Prop:=(Lit.int .i64 n).wf=true
def EY(y:Bool)(n:Int)(l:List Int):Prop:=y=true/\RO n/\l.length<4294967296
def oc(t:Nat)(r:Option Operand):j5:=bif VL c t&&r.isNone then .wr λst=>.ret (some (.w8 st.length),st++[.var (.QZ [])])else bad
def ZE(t:Nat)(ok:Bool)(m x:Option D):j5:=bif VL c t && !ok then match m,asInt x with
 | some (.w8 b),some (q,n)=>bif ZA q then .rd λst=>match st[b]? with
  | some (.var (.QZ l))=>.zb (RO n) (.ret (some (.zj .bool (l.contains n))))
  | _=>.fail
  else bad
 | some .qC,some (q,n)=>bif ZA q then .val (.zb (RO n) (.ret (some (.zj .bool false))))else bad
 | _,_=>bad
 else bad
def tP(t:Nat)(m x v:Option D):j5:=bif VL c t then match m,asInt x,asBool v with
 | some (.w8 b),some (q,n),some y=>bif ZA q then .wr λst=>match st[b]? with
  | some (.var (.QZ l))=>.zb (EY y n l) (.ret (none,st.set b (.var (.QZ (l++[n])))))
  | _=>.fail
  else bad
 | _,_,_=>bad
 else bad
def zV(ρ:Operand->Option D)(o:Oper):j5:=match o.op with
 | .move x | .assign x=>.val (.ret (ρ x))
 | .pick x a b=>Kl (ρ x) (ρ a) (ρ b)
 | .alloc t=>gE c t
 | .box t x=>Cu c t o.dst (ρ x)
 | .load t a=>mj c t (ρ a)
 | .store t a v=>se c t (ρ a) (ρ v)
 | .nilCheck x=>lK (ρ x)
 | .binOp op t x y _=>J1 c op t y (ρ x) (ρ y)
 | .typeAssert x _ t ok=>cY c (ρ x) t ok
 | .unOp op _ x=>Dc op (ρ x)
 | .convert s t x=>convertOp c s t (ρ x)
 | .makeInterface t x=>iA c t (ρ x)
 | .makeMap t r=>oc c t r
 | .lookup t m x ok=>ZE c t ok (ρ m) (ρ x)
 | .mapUpdate t m x v=>tP c t (ρ m) (ρ x) (ρ v)
 | .makeFunc (.func f) first cap=>bif Nat.beq first.size 0&&Nat.blt f 1000000 then match wD (cap.toList.map ρ)with | some l=>val (.zK f l) | none=>bad
   else bif Nat.beq cap.size 0&&Nat.blt f 1000000 then match wD (first.toList.map ρ)with | some l=>val (.zK (f+1000000) l) | none=>bad else bad
 | .makeSlice t l m=>K8 c t (ρ l) (ρ m)
 | .slice t x lo hi mx=>Wd c t (ρ x) (lo.map ρ) (hi.map ρ) (mx.map ρ)
 | .fieldAddr s x f=>fu c s f (ρ x)
 | .field s x f=>XR c s f (ρ x)
 | .indexAddr t x i=>fV c t (ρ x) (ρ i)
 | .index t x i=>Wa c t (ρ x) (ρ i)
 | .extract x i=>ov (ρ x) i
 | .build t ps=>XL c t (ps.toList.map λp=>(p.1,ρ p.2))
 | .buildSlice t n ps=>bif C6 c o.dst&&Nat.beq n 0&&Nat.beq ps.size 0 then nq c t (vj c t n (ps.toList.map λp=>(p.1,ρ p.2)))else vj c t n (ps.toList.map λp=>(p.1,ρ p.2))
 | .call cl=>match cl.callee with
  | .builtin b=>cL c b cl.argTypes.toList (cl.args.toList.map ρ)
  | .value f=>jE c (ρ f) (cl.args.toList.map ρ)
  | .invoke _ _=>bad
 | _=>bad
def zk:j5->St->T (Option D×St)
 | .val t,st=>t.bind λd=>.ret (d,st)
 | .rd k,st=>(k st).bind λd=>.ret (d,st)
 | .wr k,st=>k st
end ops
end Go.AM
namespace Go.AM
def j5.kind:j5->Nat
 | .val _=>0
 | .rd _=>1
 | .wr _=>2
def wQ(ops:Array Oper)(j:Nat):Option Nat:=match ops[j]? with | some o=>o.dst | none=>none
def B3:D:=.jC []
def wi(n:Nat):Option Nat->Bool
 | some t=>Nat.blt t n
 | none=>true
section
variable (c:Ctx)
variable [lf]
def gM(kn:Kn):Operand->Option Bool
 | .tmp t=>kn.get t
 | .const (.bool b)=>some b
 | _=>none
def ZU(kn:Kn):Op->Option Bool
 | .move x | .assign x=>gM kn x
 | .pick x a b=>match gM kn x with
  | some true=>gM kn a
  | some false=>gM kn b
  | none=>none
 | _=>none
def ew(kn:Kn)(fr:Fr)(o:Oper):j5:=match o.op with
 | .pick x a b=>match gM kn x with
  | some true=>.val (.ret (wZ fr a))
  | some false=>.val (.ret (wZ fr b))
  | none=>zV c (wZ fr) o
 | _=>zV c (wZ fr) o
def ZS(kn:Kn)(dst:Option Nat)(b:Option Bool):Kn:=match dst with | some t=>(t,b)::kn | none=>kn
inductive RK where
 | z (k:Nat) | rd (b:Nat) | wr (free:List Nat) | up (b:Nat) | wc (l:List Nat) | al (free:List Nat)
def RK.base:RK->Nat
 | .z k=>k
 | .rd _=>1
 | .wr _=>2
 | .up _=>2
 | .wc _=>2
 | .al _=>2
def others(n:Nat)(l:List Nat):List Nat:=(List.range n).filter λb => !(l.any (Nat.beq b))
def PL(d:Option D):Option Nat:=match d with
 | some d=>match d with
  | .ptr b _=>some b
  | .wB b _ _ _ _=>some b
  | _=>none
 | none=>none
def YA(bi:Builtin)(l:List (Option D)):RK:=match bi with
 | .append=>match l with | [some (.ms b _ _ _ _),some x]=>bif QB x then .z 2 else .up b | _=>.z 2
 | _=>.z 2
def qe(ρ:Operand->Option D)(st:St)(o:Oper):RK:=match(zV c ρ o).kind with
 | 1=>match o.op with
  | .load _ a=>match PL (ρ a)with | some b=>.rd b | none=>.z 1
  | _=>.z 1
 | 2=>match o.op with
  | .alloc _=>.al (others st.length [])
  | .store _ a _=>match PL (ρ a)with | some b=>.up b | none=>.z 2
  | .call cl=>match cl.callee with
   | .value f=>match ρ f,wD (cl.args.toList.map ρ)with | some (.zK g caps),some l=>(match c.ec (jc g) (v8 g l caps)with | some U=>.wc U | none=>.wr (c.free (jc g) (v8 g l caps) st)) | _,_=>.z 2
   | .builtin bi=>YA bi (cl.args.toList.map ρ)
   | _=>.z 2
  | _=>.z 2
 | k=>.z k
structure gG where
 fr:Fr
 kn:Kn
 st:St
 ks:List Nat      -- kinds of what has run,the last first
 bk:List RK
def kH(n:Nat)(o:Oper)(s:gG):T gG :=
 bif wi n o.dst then
  let cl:=ew c s.kn s.fr o
  (zk cl s.st).bind λr=>.ret ⟨s.fr.put o.dst r.1,ZS s.kn o.dst (ZU s.kn o.op),r.2,cl.kind::s.ks,qe c (wZ s.fr) s.st o::s.bk⟩
 else .fail
def vT(o:Oper)(s:gG):gG:=⟨s.fr.put o.dst (some B3),ZS s.kn o.dst none,s.st,0::s.ks,.z 0::s.bk⟩
def gG.kM(s:gG)(t:Nat)(b:Bool):gG:={ s with kn:=(t,some b)::s.kn }
def stepG(n:Nat)(ops:Array Oper)(o:Oper)(s:gG):T gG:=match o.guard with
 | none=>kH c n o s
 | some (j,want)=>match wQ ops j with
  | none=>.fail
  | some t=>match s.kn.get t with
   | some b=>bif b==want then kH c n o s else bif wi n o.dst then .ret (vT o s)else .fail
   | none=>match s.fr.get t with
    | some (.zj .bool x)=>bif wi n o.dst then
      .ite x (bif want then kH c n o (s.kM t true)else .ret (vT o (s.kM t true)))
          (bif want then .ret (vT o (s.kM t false))else kH c n o (s.kM t false))
     else .fail
    | some (.jC [])=>bif wi n o.dst then .ret (vT o s)else .fail
    | _=>.fail
def cg(n:Nat)(ops:Array Oper):List Oper->gG->T gG
 | [],s=>.ret s
 | o::l,s=>(stepG c n ops o s).bind λs'=>cg n ops l s'
def tmpsOf(ops:Array Oper)(o:Oper):List Nat :=
 (match o.dst with | some d=>[d] | none=>[]) ++
 (match o.guard with | some (j,_)=>(match wQ ops j with | some s=>[s] | none=>[]) | none=>[]) ++
 o.op.operands.toList.filterMap λ| .tmp t=>some t | _=>none
def ql(l:List Oper):List Nat->List Nat
 | acc=>match l with
  | []=>acc
  | o::r=>ql r (acc++[o.after.toList.foldl (λs e=>bif Region.binds .any e then s ||| 2 ^ e.on ||| acc.getD e.on 0 else s) 0])
def ordered(bs:List Nat)(i j:Nat):Bool:=Nat.testBit (bs.getD j 0) i
def ve(k l:Nat):Bool:=(Nat.beq k 2 && !Nat.beq l 0)||(Nat.beq l 2 && !Nat.beq k 0)
def KA{K:Type}(cl:K->K->Bool)(bs:List Nat)(xs:List (Nat×Option Nat×List Nat×K))(j:Nat)(dj:Option Nat)(tj:List Nat)(kj:K):Bool :=
 xs.all λx=>ordered bs x.1 j||(!(match x.2.1 with | some d=>tj.contains d | none=>false) && !(match dj with | some d=>x.2.2.1.contains d | none=>false) && !cl x.2.2.2 kj)
def dh{K:Type}(cl:K->K->Bool)(ops:Array Oper)(bs:List Nat):List Oper->List K->Nat->List (Nat×Option Nat×List Nat×K)->Bool
 | [],_,_,_=>true
 | o::l,k::ks,j,xs=>let tj:=tmpsOf ops o; KA cl bs xs j o.dst tj k&&dh cl ops bs l ks (j+1) ((j,o.dst,tj,k)::xs)
 | _,_,_,_=>false
def kc:List Oper->Nat->Bool
 | [],_=>true
 | o::l,j=>o.after.toList.all (λe => !Region.binds .any e||Nat.blt e.on j)&&kc l (j+1)
def G1(ops:Array Oper)(ks:List Nat):Bool :=
 let l:=ops.toList
 kc l 0&&dh ve ops (ql l []) l ks 0 []
def rA(o:Oper):Bool:=(match o.op with | .alloc _=>true | _=>false)&&o.guard.isNone&&o.dst.isSome
def ta:List Oper->List Nat->List Nat
 | o::l,k::ks=>(bif rA o then 3 else k)::ta l ks
 | _,_=>[]
def fP(k l:Nat):Bool:=bif Nat.beq k 3&&Nat.beq l 3 then false else ve (bif Nat.beq k 3 then 2 else k) (bif Nat.beq l 3 then 2 else l)
def sV:List Oper->Nat->List Nat
 | [],_=>[]
 | o::l,i=>bif rA o then i::sV l (i+1)else sV l (i+1)
def UJ(bs al:List Nat)(n:Nat):Bool:=(List.range n).all λj => !(al.any λp=>ordered bs p j)||al.all λp=>ordered bs p j
def Y9(ops:Array Oper)(ks:List Nat):Bool :=
 let l:=ops.toList
 kc l 0&&(ks.all λk=>Nat.ble k 2)&&dh fP ops (ql l []) l (ta l ks) 0 []&&UJ (ql l []) (sV l 0) l.length
def w7:RK->RK->Bool
 | .rd b,.wr A => !(A.any (Nat.beq b))
 | .wr A,.rd b => !(A.any (Nat.beq b))
 | .rd b,.al A => !(A.any (Nat.beq b))
 | .al A,.rd b => !(A.any (Nat.beq b))
 | .rd b,.wc U=>U.any (Nat.beq b)
 | .wc U,.rd b=>U.any (Nat.beq b)
 | .wc _,.al _=>false
 | .rd b,.up a=>Nat.beq a b
 | .up a,.rd b=>Nat.beq a b
 | .up a,.up b=>Nat.beq a b
 | x,y=>ve x.base y.base
def H0(ops:Array Oper)(ks:List RK):Bool :=
 let l:=ops.toList
 kc l 0&&dh w7 ops (ql l []) l ks 0 []
def mn(ops:Array Oper)(ks:List Nat)(bk:List RK):Bool:=G1 ops ks||Y9 ops ks||H0 ops bk
def gL(n:Nat)(ops:Array Oper)(draw:Bool)(fr:Fr)(kn:Kn)(st:St):T gG :=
 (cg c n ops ops.toList ⟨fr,kn,st,[],[]⟩).bind λs=>bif !draw||mn ops s.ks.reverse s.bk.reverse then .ret s else .fail
def xV:List D->Nat->Fr
 | [],_=>[]
 | d::r,i=>(i,some d)::xV r (i+1)
def yp(fr:Fr)(st:St):List ResultVar->T (List D)
 | []=>.ret []
 | .tmp t::r=>match fr.get t with
  | some d=>(yp fr st r).bind λl=>.ret (d::l)
  | none=>.fail
 | .cell a t::r=>match fr.get a with
  | some (.ptr b off)=>match st[b]? with
   | some (.var d)=>bif d.tk then .fail else match Jj c t d off with
    | some x=>(yp fr st r).bind λl=>.ret (x::l)
    | none=>.fail
   | _=>.fail
  | _=>.fail
def xS(n:Nat):D->Bool
 | .ptr b _=>Nat.blt b n
 | .ja b _=>Nat.blt b n
 | .w8 b=>Nat.blt b n
 | .wB b .. => Nat.blt b n
 | .ms b .. => Nat.blt b n
 | .zK .. | .agg _ | .jC _ | .iface .. => false
 | _=>true
def kA(n:Nat):D->Bool
 | .zK _ l=>l.all (xS n)
 | .agg l=>l.all (xS n)
 | .iface _ d=>xS n d
 | d=>xS n d
def WR(n:Nat):vX->Bool
 | .var d=>kA n d
 | _=>true
end
end Go.AM
namespace Go.AM
open Go.RowKit
inductive Rc(w:World)(ok:Nat->Prop):(τ:Ty)->den τ->List Value->Prop
 | int (k:IntKind) (n:Int):Rc w ok (.int k) n [.int k n]
 | bool (b:Bool):Rc w ok .bool b [.bool b]
 | str (s:zh):Rc w ok .str s [.string ⟨s.toArray⟩]
 | kR (e:Ty) (a:Option Addr):Rc w ok (.sl e) ([]:List (den e)) [.slice a 0 0]
 | sl (e:Ty) (l:List (den e)) (blk off cap:Nat) (f:Nat->List Value) (qI:ok blk) (qR:l.length<=cap)
   (h:∀ i (hi:i<l.length),Rc w ok e l[i] (f i))
   (hc:∀ i,i<l.length->∀ j v,(f i)[j]? = some v->w.cell? ⟨blk,off+i*e.size+j,none⟩=some v) :
   Rc w ok (.sl e) l [.slice (some ⟨blk,off,none⟩) l.length cap]
 | nil:Rc w ok .nil () []
 | cons (a b:Ty) (x:den a) (y:den b) (c1 c2:List Value) (h1:Rc w ok a x c1) (h2:Rc w ok b y c2):Rc w ok (.cons a b) (x,y) (c1++c2)
 | expr (k:Int) (n:den QP) (s:zh) (l:List Expr) (cs:List Value) (h:Rc w ok oP (k,n,s,l,()) cs):Rc w ok .expr (.mk k n s l) cs
def J9(w w':World)(ok r8:Nat->Prop):Prop:=∀ k,ok k->r8 k/\w'.heap[k]? = w.heap[k]?
theorem y6{w w':World}{a:Addr}(h:w'.heap[a.block]? = w.heap[a.block]?):w'.cell? a=w.cell? a:=by simp[World.cell?,h]
section
variable {w w':World} {ok r8:Nat->Prop}
theorem Rc.mono{τ:Ty}{x:den τ}{cs:List Value}(hs:J9 w w' ok r8)(h:Rc w ok τ x cs):Rc w' r8 τ x cs:=by
 induction h with
 | int k n=>exact .int k n
 | bool b=>exact .bool b
 | str s=>exact .str s
 | kR e a=>exact .kR e a
 | sl e l blk off cap f qI qR h hc ih=>exact .sl e l blk off cap f (hs _ qI).1 qR ih λi hi j v hv=>by rw[y6 (hs _ qI).2]; exact hc i hi j v hv
 | nil=>exact .nil
 | cons a b x y c1 c2 h1 h2 i1 i2=>exact .cons a b x y c1 c2 i1 i2
 | expr k n s l cs h ih=>exact .expr k n s l cs ih
theorem Rc.len{τ:Ty}{x:den τ}{cs:List Value}(h:Rc w ok τ x cs):cs.length=τ.size:=by
 induction h with
 | cons a b x y c1 c2 h1 h2 i1 i2=>simp[Ty.size,i1,i2]
 | expr k n s l cs h ih=>simpa[Ty.size]using ih
 | _=>rfl
theorem Rc.one{τ:Ty}{x:den τ}{cs:List Value}(h:Rc w ok τ x cs):∀ v∈cs,v.oneCell'=true:=by
 induction h with
 | cons a b x y c1 c2 h1 h2 i1 i2=>grind
 | expr k n s l cs h ih=>exact ih
 | _=>intro v hv; simp at hv; try (subst hv; rfl)
theorem Rc.jB{k:IntKind}{n:Int}{cs:List Value}(h:Rc w ok (.int k) n cs):cs=[.int k n]:=by cases h; rfl
theorem Rc.um{n:Bool}{cs:List Value}(h:Rc w ok .bool n cs):cs=[.bool n]:=by cases h; rfl
theorem Rc.qO{n:zh}{cs:List Value}(h:Rc w ok .str n cs):cs=[.string ⟨n.toArray⟩]:=by cases h; rfl
theorem Rc.cons_inv{a b:Ty}{x:den (.cons a b)}{cs:List Value}(h:Rc w ok (.cons a b) x cs):∃ c1 c2,cs=c1++c2/\Rc w ok a x.1 c1/\Rc w ok b x.2 c2:=by
 cases h with | cons _ _ x y c1 c2 h1 h2=>exact⟨c1,c2,rfl,h1,h2⟩
theorem Rc.zG{x:den .nil}{cs:List Value}(h:Rc w ok .nil x cs):cs=[]:=by cases h; rfl
theorem Rc.VF{x:Expr}{cs:List Value}(h:Rc w ok .expr x cs):Rc w ok oP x.C8 cs:=by cases h with | expr k n s l cs h=>exact h
theorem Rc.dr{e:Ty}{l:List (den e)}{cs:List Value}(h:Rc w ok (.sl e) l cs):(l=[]/\∃ a,cs=[.slice a 0 0]) \/
  ∃ (blk off cap:Nat) (f:Nat->List Value),cs=[.slice (some ⟨blk,off,none⟩) l.length cap]/\ok blk/\l.length<=cap/\(∀ i (hi:i<l.length),Rc w ok e l[i] (f i)) /\
   (∀ i,i<l.length->∀ j v,(f i)[j]? = some v->w.cell? ⟨blk,off+i*e.size+j,none⟩=some v):=by
 cases h with
 | kR _ a=>simp
 | sl _ _ blk off cap f qI qR h hc=>exact .inr ⟨blk,off,cap,f,rfl,qI,qR,h,hc⟩
end
def pk(τ:Ty)(cs:List Value):Value:=if τ.isAgg then .agg cs.toArray else cs.headD undef
structure KS where
 w:World
 ok:Nat->Prop
 ph:List (Option (Nat×Nat))
 st:St
def KK(ph:List (Option (Nat×Nat)))(b z7Q:Nat)(e:Ty)(off len:Nat)(v:Value):Prop :=
 off+len<=z7Q/\((len=0/\off=0/\v=.slice none 0 0/\ph[b]? = some none) \/
  ∃ (blk n o cap:Nat),ph[b]? = some (some (blk,n))/\v=.slice (some ⟨blk,o,none⟩) len cap/\len<=cap/\(off+cap)*e.size<=n/\(cap=0\/o=off*e.size))
def Old(st:St)(b q7:Nat):Prop:=st[b]? = some .dead\/∃ (v0:Nat) (e0:Ty) (mv:List (den e0)),st[b]? = some (.arr v0 e0 mv)/\q7<=v0
def D.one:D->Bool
 | .zj τ _ => !τ.isAgg
 | .agg _ | .jC _=>false
 | _=>true
def eI(f:Nat)(vs:List Value):Value:=bif Nat.ble 1000000 f then .func (.func (f % 1000000)) vs.toArray #[]else .func (.func f) #[] vs.toArray
theorem Wu{f:Nat}(h:Nat.blt f 1000000=true)(vs:List Value):eI f vs=.func (.func f) #[] vs.toArray:=by
 have:Nat.ble 1000000 f=false:=by
  cases hb:Nat.ble 1000000 f with
  | false=>rfl
  | true=>have h1:=Nat.le_of_ble_eq_true hb; have h2:=Nat.le_of_ble_eq_true h; omega
 unfold eI; rw[this]; rfl
theorem JH{f:Nat}(h:Nat.blt f 1000000=true)(vs:List Value):eI (f+1000000) vs=.func (.func f) vs.toArray #[]:=by
 have h1:Nat.ble 1000000 (f+1000000)=true:=Nat.ble_eq_true_of_le (by omega)
 have h2:=Nat.le_of_ble_eq_true h
 have h3:(f+1000000) % 1000000=f:=by omega
 unfold eI; rw[h1,h3]; rfl
theorem sP(f:Nat)(vs:List Value):(eI f vs).cells.toList=[eI f vs]:=by
 unfold eI; cases Nat.ble 1000000 f<;>rfl
theorem Cc(f:Nat)(vs:List Value):(eI f vs).oneCell'=true:=by
 unfold eI; cases Nat.ble 1000000 f<;>rfl
theorem Z6(f:Nat)(vs:List Value):∃ g a b,eI f vs=.func (.func g) a b:=by
 unfold eI; cases Nat.ble 1000000 f<;>exact⟨_,_,_,rfl⟩
inductive RD(κ:KS):D->Value->Prop
 | zj (τ:Ty) (x:den τ) (cs:List Value) (h:Rc κ.w κ.ok τ x cs):RD κ (.zj τ x) (pk τ cs)
 | qm (e:Ty) (a:Option Addr):RD κ (.tight e ([]:List (den e)) false) (.slice a 0 0)
 | tight (e:Ty) (l:List (den e)) (ne:Bool) (blk off:Nat) (f:Nat->List Value) (ui:ne=true->l≠[]) (qI:κ.ok blk)
   (h:∀ i (hi:i<l.length),Rc κ.w κ.ok e l[i] (f i))
   (hc:∀ i,i<l.length->∀ j v,(f i)[j]? = some v->κ.w.cell? ⟨blk,off+i*e.size+j,none⟩=some v) :
   RD κ (.tight e l ne) (.slice (some ⟨blk,off,none⟩) l.length l.length)
 | bu (e:Ty) (l:List (den e)) (b:Bool) (v:Value) (h:Rc κ.w κ.ok (.sl e) l [v]) (ht:b=true->∃ blk off cap,v=.slice (some ⟨blk,off,none⟩) l.length cap/\(l=[]->cap=0)) (hf:b=false->v=.slice none 0 0):RD κ (.bu e l b) v
 | zW:RD κ .zW (.slice none 0 0)
 | wJ:RD κ .wJ (.pointer none)
 | q8:RD κ .q8 .nilIface
 | wo:RD κ .wo .nilFunc
 | qC:RD κ .qC (.map none)
 | lr (v:Value) (h:v.oneCell'=true):RD κ .lr v
 | yA (T:Nat):RD κ (.yA T) (.pointer none)
 | w8 (b blk n:Nat) (d:D) (hd:κ.st[b]? = some (.var d)) (h:κ.ph[b]? = some (some (blk,n))):RD κ (.w8 b) (.map (some blk))
 | yw (b T:Nat) (d:D) (hd:κ.st[b]? = some (.var d)):RD κ (.ja b T) (.pointer none)
 | yI (b T blk n:Nat) (d:D) (hd:κ.st[b]? = some (.var d)) (h:κ.ph[b]? = some (some (blk,n))):RD κ (.ja b T) (.pointer (some ⟨blk,0,none⟩))
 | ptr (b off blk n:Nat) (d:D) (hd:κ.st[b]? = some (.var d)) (h:κ.ph[b]? = some (some (blk,n))):RD κ (.ptr b off) (.pointer (some ⟨blk,off,none⟩))
 | qf (τ:Ty) (x:den τ) (cs:List Value) (blk off:Nat) (qI:κ.ok blk) (h:Rc κ.w κ.ok τ x cs)
   (hc:∀ j v,cs[j]? = some v->κ.w.cell? ⟨blk,off+j,none⟩=some v):RD κ (.qf τ x) (.pointer (some ⟨blk,off,none⟩))
 | wB (b q7:Nat) (e:Ty) (idx off blk o:Nat) (hb:Old κ.st b q7)
   (h:∀ xs:List (den e),κ.st[b]? = some (.arr q7 e xs)->idx<xs.length->∃ n:Nat,κ.ph[b]? = some (some (blk,n))/\o=idx*e.size+off) :
   RD κ (.wB b q7 e idx off) (.pointer (some ⟨blk,o,none⟩))
 | ms (b q7:Nat) (e:Ty) (off len cap:Nat) (a:Option Addr) (hb:Old κ.st b q7) (qR:len<=cap) (ha:a=none->cap=0) (mX:∀ p,a=some p->p.spot=none)
   (h:∀ xs:List (den e),κ.st[b]? = some (.arr q7 e xs)->KK κ.ph b xs.length e off len (.slice a len cap)):RD κ (.ms b q7 e off len) (.slice a len cap)
 | zK (f:Nat) (l:List D) (vs:List Value) (hl:l.length=vs.length) (h:∀ i (h1:i<l.length) (h2:i<vs.length),RD κ l[i] vs[i]):RD κ (.zK f l) (eI f vs)
 | agg (l:List D) (vs:List Value) (hl:l.length=vs.length) (ho:∀ d∈l,d.one=true) (h:∀ i (h1:i<l.length) (h2:i<vs.length),RD κ l[i] vs[i]):RD κ (.agg l) (.agg vs.toArray)
 | jC (l:List D) (vs:List Value) (hl:l.length=vs.length) (h:∀ i (h1:i<l.length) (h2:i<vs.length),RD κ l[i] vs[i]):RD κ (.jC l) (.tuple vs.toArray)
 | iface (t:Nat) (d:D) (v:Value) (h:RD κ d v):RD κ (.iface t d) (.iface t v)
def zU(κ:KS)(l:List D)(vs:List Value):Prop:=l.length=vs.length/\∀ i (h1:i<l.length) (h2:i<vs.length),RD κ l[i] vs[i]
def FX(o:Obj)(l:List Int):Prop:=∀ (P:Program) (k e:TypeId),P.underlying k=some (.int .i64)->P.underlying e=some .bool->∀ (w:World) (b:Nat),w.heap[b]? = some o ->
 ∃ D:DataW Unit,w.ownsMap P k (plainElem P e) b l.length D/\Go.Maps.IsMap D/\∀ n,(Lit.int .i64 n).wf=true->D.atKey (.int .i64 n) (.lit (.bool false))=.lit (.bool (l.contains n))
def Cells(κ:KS)(b:Nat)(d:D):Prop:=∃ (blk n:Nat) (cs:Array Value) (t:TypeId),κ.ph[b]? = some (some (blk,n))/\κ.w.heap[blk]? = some (.cells cs t (0,0))/\cs.size=n/\zU κ (zC d) cs.toList/\(∀ x∈zC d,x.one=true)/\∀ T,d.typed=some T->t=T
def Maps(κ:KS)(b:Nat)(l:List Int):Prop:=∃ (blk:Nat) (o:Obj),κ.ph[b]? = some (some (blk,0))/\κ.w.heap[blk]? = some o/\FX o l
def xF(κ:KS)(b:Nat)(d:D):Prop:=match d with
 | .QZ l=>Maps κ b l
 | d=>Cells κ b d
theorem xF.elim{κ:KS}{b:Nat}{d:D}{p:Prop}(h:xF κ b d)(h1:d.tk=false->Cells κ b d->p)(h2:∀ l,d=.QZ l->Maps κ b l->p):p:=by
 cases d<;>first | exact h2 _ rfl h | exact h1 rfl h
theorem xF.cells{κ:KS}{b:Nat}{d:D}(h:xF κ b d)(hm:d.tk=false):Cells κ b d:=h.elim (λ_ h=>h) λl e _=>by subst e; cases hm
theorem xF.mk{κ:KS}{b:Nat}{d:D}(hm:d.tk=false)(h:Cells κ b d):xF κ b d:=by
 cases d<;>first | exact h | cases hm
def gX[lf](κ:KS)(b:Nat):vX->Prop
 | .dead=>True
 | .var d=>xF κ b d
 | .arr _ e xs=>0<e.size/\((xs=[]/\κ.ph[b]? = some none) \/
   ∃ (blk n:Nat) (cs:Array Value) (t:TypeId),κ.ph[b]? = some (some (blk,n))/\κ.w.heap[blk]? = some (.cells cs t (0,0))/\cs.size=n/\xs.length*e.size<=n/\OG e t /\
    ∃ f:Nat->List Value,∀ i (hi:i<xs.length),Rc κ.w κ.ok e xs[i] (f i)/\∀ j v,(f i)[j]? = some v->cs[i*e.size+j]? = some v)
class we extends lf where
 tab:List (Nat×(Obj->Prop))
def ml[we](w:World)(ok:Nat->Prop):Prop:=∀ x∈we.tab,ok x.1/\∃ o,w.heap[x.1]? = some o/\x.2 o
theorem ml.mono[we]{w w':World}{ok r8:Nat->Prop}(h:ml w ok)(hs:J9 w w' ok r8):ml w' r8:=λx hx=>by
 obtain⟨h1,o,h2,h3⟩:=h x hx
 obtain⟨g1,g2⟩:=hs _ h1
 grind
structure Inv[we](κ:KS):Prop where
 len:κ.ph.length=κ.st.length
 ux:∀ k,κ.ok k->k<κ.w.heap.size
 apart:∀ (b blk n:Nat),κ.ph[b]? = some (some (blk,n))->blk<κ.w.heap.size/\¬ κ.ok blk
 inj:∀ (b b' blk n n':Nat),κ.ph[b]? = some (some (blk,n))->κ.ph[b']? = some (some (blk,n'))->b=b'
 blk:∀ (b:Nat) (x:vX),κ.st[b]? = some x->gX κ b x
 gl:ml κ.w κ.ok
structure Ext(κ κ':KS):Prop where
 os:κ'.w.os=κ.w.os
 tape:κ'.w.tape=κ.w.tape
 output:κ'.w.output=κ.w.output
 size:κ.w.heap.size<=κ'.w.heap.size
 same:J9 κ.w κ'.w κ.ok κ'.ok
 fresh:∀ k,κ'.ok k->κ.ok k\/κ.w.heap.size<=k\/∃ b n:Nat,κ.ph[b]? = some (some (k,n))
 Dg:∀ (b blk n:Nat),κ'.ph[b]? = some (some (blk,n))->κ.ph[b]? = some (some (blk,n))\/κ.w.heap.size<=blk
 var:∀ (b:Nat) (d:D),κ.st[b]? = some (.var d)->(∃ d',κ'.st[b]? = some (.var d'))/\κ'.ph[b]? = κ.ph[b]?
 arr:∀ (b v0:Nat) (e:Ty) (mv:List (den e)),κ.st[b]? = some (.arr v0 e mv)->κ'.st[b]? = some .dead \/
  ∃ (v1:Nat) (OD:List (den e)),κ'.st[b]? = some (.arr v1 e OD)/\v0<=v1/\(v0=v1->κ'.ph[b]? = κ.ph[b]? /\ mv.length=OD.length)
 dead:∀ (b:Nat),κ.st[b]? = some .dead->κ'.st[b]? = some .dead
 Uv:κ.st.length<=κ'.st.length
 frame:∀ k,k<κ.w.heap.size->(∀ (b n:Nat),κ.ph[b]? ≠ some (some (k,n)))->κ'.w.heap[k]? = κ.w.heap[k]?
theorem Ext.refl(κ:KS):Ext κ κ :=
 ⟨rfl,rfl,rfl,Nat.le_refl _,λ_ h=>⟨h,rfl⟩,λ_ h=>.inl h,λ_ _ _ h=>.inl h,λ_ d h=>⟨⟨d,h⟩,rfl⟩,
  λ_ q7 _ xs h=>.inr ⟨q7,xs,h,Nat.le_refl _,λ_=>⟨rfl,rfl⟩⟩,λ_ h=>h,Nat.le_refl _,λ_ _ _=>rfl⟩
theorem Ext.trans{a b c:KS}(h:Ext a b)(k:Ext b c):Ext a c:=by
 refine⟨k.os.trans h.os,k.tape.trans h.tape,k.output.trans h.output,Nat.le_trans h.size k.size,?_,?_,?_,?_,?_,λb hb=>k.dead b (h.dead b hb),Nat.le_trans h.Uv k.Uv,?_⟩
 ·intro i hi
  obtain⟨h1,h2⟩:=h.same i hi
  obtain⟨h3,h4⟩:=k.same i h1
  grind
 ·intro i hi
  rcases k.fresh i hi with h1 | h1 | ⟨b,n,h1⟩
  ·exact h.fresh i h1
  ·exact .inr (.inl (Nat.le_trans h.size h1))
  ·rcases h.Dg b i n h1 with h2 | h2
   ·grind
   ·grind
 ·intro i blk n hi
  rcases k.Dg i blk n hi with h1 | h1
  ·exact h.Dg i blk n h1
  ·exact .inr (Nat.le_trans h.size h1)
 ·intro i d hi
  obtain⟨⟨d',j9⟩,hp⟩:=h.var i d hi
  obtain⟨zaK,hp'⟩:=k.var i d' j9
  grind
 ·intro i v0 e mv hi
  rcases h.arr i v0 e mv hi with h1 | ⟨v1,x1,h1,h2,h3⟩
  ·exact .inl (k.dead i h1)
  ·rcases k.arr i v1 e x1 h1 with g1 | ⟨v2,x2,g1,g2,g3⟩
   ·grind
   ·grind
 ·intro i hi hn
  refine(k.frame i (Nat.lt_of_lt_of_le hi h.size) λb n hb => ?_).trans (h.frame i hi hn)
  rcases h.Dg b i n hb with h1 | h1
  ·grind
  ·omega
theorem Ext.old{κ κ':KS}(x:Ext κ κ'){b q7:Nat}(h:Old κ.st b q7):Old κ'.st b q7:=by
 rcases h with h | ⟨v0,e0,mv,h,hv⟩
 ·exact .inl (x.dead b h)
 ·rcases x.arr b v0 e0 mv h with h1 | ⟨v1,x1,h1,h2,_⟩
  ·exact .inl h1
  ·exact .inr ⟨v1,e0,x1,h1,Nat.le_trans hv h2⟩
theorem Ext.back{κ κ':KS}(x:Ext κ κ'){b q7:Nat}(h:Old κ.st b q7){e:Ty}{xs:List (den e)}(hx:κ'.st[b]? = some (.arr q7 e xs)) :
  ∃ mv:List (den e),κ.st[b]? = some (.arr q7 e mv)/\κ'.ph[b]? = κ.ph[b]? /\ mv.length=xs.length:=by
 rcases h with h | ⟨v0,e0,mv,h,hv⟩
 ·have:=x.dead b h; rw[hx]at this; cases this
 ·rcases x.arr b v0 e0 mv h with h1 | ⟨v1,x1,h1,h2,h3⟩
  ·grind
  ·grind
theorem RD.mono{κ κ':KS}(x:Ext κ κ'){d:D}{v:Value}(h:RD κ d v):RD κ' d v:=by
 induction h with
 | zj τ y cs h=>exact .zj τ y cs (h.mono x.same)
 | qm e a=>exact .qm e a
 | tight e l ne blk off f ui qI h hc=>exact .tight e l ne blk off f ui (x.same _ qI).1 (λi hi=>(h i hi).mono x.same) λi hi j v hv=>by rw[y6 (x.same _ qI).2]; exact hc i hi j v hv
 | bu e l b v h ht hf=>exact .bu e l b v (h.mono x.same) ht hf
 | zW=>exact .zW
 | wJ=>exact .wJ
 | q8=>exact .q8
 | wo=>exact .wo
 | qC=>exact .qC
 | lr v h=>exact .lr v h
 | yA T=>exact .yA T
 | yw b T d hd =>
  obtain⟨⟨d',j9⟩,hp⟩:=x.var b d hd
  exact .yw b T d' j9
 | w8 b blk n d hd h =>
  obtain⟨⟨d',j9⟩,hp⟩:=x.var b d hd
  exact .w8 b blk n d' j9 (hp.trans h)
 | yI b T blk n d hd h =>
  obtain⟨⟨d',j9⟩,hp⟩:=x.var b d hd
  exact .yI b T blk n d' j9 (hp.trans h)
 | ptr b off blk n d hd h =>
  obtain⟨⟨d',j9⟩,hp⟩:=x.var b d hd
  exact .ptr b off blk n d' j9 (hp.trans h)
 | qf τ y cs blk off qI h hc=>exact .qf τ y cs blk off (x.same _ qI).1 (h.mono x.same) λj v hv=>by rw[y6 (x.same _ qI).2]; exact hc j v hv
 | wB b q7 e idx off blk o hb h =>
  refine .wB b q7 e idx off blk o (x.old hb) λxs hx hi => ?_
  obtain⟨mv,h1,h2,h3⟩:=x.back hb hx
  grind
 | ms b q7 e off len cap a hb qR ha mX h =>
  refine .ms b q7 e off len cap a (x.old hb) qR ha mX λxs hx => ?_
  obtain⟨mv,h1,h2,h3⟩:=x.back hb hx
  have:=h mv h1
  unfold KK at this ⊢
  grind
 | zK f l vs hl h ih=>exact .zK f l vs hl ih
 | agg l vs hl ho h ih=>exact .agg l vs hl ho ih
 | jC l vs hl h ih=>exact .jC l vs hl ih
 | iface t d v h ih=>exact .iface t d v ih
end Go.AM
namespace Go.AM
section
variable {α β:Type}
theorem T.zq{t:T α}{k:α->T β}{b:β}:(t.bind k).leads b↔∃ a,t.leads a/\(k a).leads b:=by
 induction t with
 | ret a=>simp[T.bind,T.leads]
 | ite c t e i1 i2 =>
  simp only[T.bind,T.leads]
  grind
 | zb p t ih =>
  simp only[T.bind,T.leads]; constructor
  ·grind
  ·grind
 | fail=>simp[T.bind,T.leads]
theorem T.wy{o:Option α}{a:α}:(T.QV o).leads a↔o=some a:=by cases o<;>simp[T.QV,T.leads]
end
section
variable {κ:KS}
theorem zU.nil:zU κ [] []:=⟨rfl,λi h _=>absurd h (Nat.not_lt_zero i)⟩
theorem zU.cons{d:D}{v:Value}{l:List D}{vs:List Value}(h:RD κ d v)(t:zU κ l vs):zU κ (d::l) (v::vs) :=
 ⟨by simp[t.1],λi h1 h2=>by cases i with | zero=>exact h | succ i=>exact t.2 i (by grind) (by grind)⟩
theorem zU.cons_inv{d:D}{l:List D}{vs:List Value}(h:zU κ (d::l) vs):∃ v r,vs=v::r/\RD κ d v/\zU κ l r:=by
 obtain⟨hl,h⟩:=h
 cases vs with
 | nil=>simp at hl
 | cons v r=>exact⟨v,r,rfl,h 0 (by simp) (by simp),by grind,λi h1 h2=>h (i+1) (by grind) (by grind)⟩
theorem zU.zG{vs:List Value}(h:zU κ [] vs):vs=[]:=List.eq_nil_of_length_eq_zero h.1.symm
theorem zU.append{l l':List D}{vs vs':List Value}(h:zU κ l vs)(h':zU κ l' vs'):zU κ (l++l') (vs++vs'):=by
 induction l generalizing vs with
 | nil=>rw[h.zG]; exact h'
 | cons d l ih=>obtain⟨v,r,rfl,h1,h2⟩:=h.cons_inv; exact .cons h1 (ih h2)
theorem zU.JZ{l l':List D}{vs:List Value}(h:zU κ (l++l') vs):∃ v1 v2,vs=v1++v2/\zU κ l v1/\zU κ l' v2:=by
 induction l generalizing vs with
 | nil=>exact⟨[],vs,rfl,.nil,h⟩
 | cons d l ih =>
  obtain⟨v,r,rfl,h1,h2⟩:=h.cons_inv
  obtain⟨v1,v2,rfl,h3,h4⟩:=ih h2
  exact⟨v::v1,v2,rfl,.cons h1 h3,h4⟩
theorem zU.get{l:List D}{vs:List Value}(h:zU κ l vs){i:Nat}{d:D}(hd:l[i]? = some d):∃ v,vs[i]? = some v/\RD κ d v:=by
 obtain⟨qc,he⟩:=List.getElem?_eq_some_iff.1 hd
 have h2:i<vs.length:=h.1▸qc
 exact⟨vs[i],List.getElem?_eq_getElem h2,he▸h.2 i qc h2⟩
theorem zU.take{l:List D}{vs:List Value}(h:zU κ l vs)(n:Nat):zU κ (l.take n) (vs.take n) :=
 ⟨by simp[h.1],λi h1 h2=>by simp; exact h.2 i (by grind) (by grind)⟩
theorem zU.drop{l:List D}{vs:List Value}(h:zU κ l vs)(n:Nat):zU κ (l.drop n) (vs.drop n) :=
 ⟨by simp[h.1],λi h1 h2=>by simp; exact h.2 (n+i) (by grind) (by grind)⟩
theorem zU.mono{κ':KS}(x:Ext κ κ'){l:List D}{vs:List Value}(h:zU κ l vs):zU κ' l vs:=⟨h.1,λi h1 h2=>(h.2 i h1 h2).mono x⟩
theorem nF{τ:Ty}{cs:List Value}(h:cs.length=τ.size)(dy:∀ v∈cs,v.oneCell'=true):(pk τ cs).cells.toList=cs:=by
 unfold pk
 split
 ·rfl
 ·rename_i hn
  have hs:τ.size=1:=by cases τ<;>simp[Ty.isAgg]at hn<;>rfl
  match cs,h,dy with
  | [v],_,dy =>
   have:=dy v (by simp)
   cases v<;>first | rfl | cases this
  | [],h,_=>grind
  | _::_::_,h,_=>grind
theorem Zp{τ:Ty}(h:τ.isAgg=false)(v:Value):pk τ [v]=v:=by simp[pk,h]
theorem pR{τ:Ty}(h:τ.isAgg=false):τ.size=1:=by cases τ<;>simp[Ty.isAgg]at h<;>rfl
theorem Rc.single{w:World}{ok:Nat->Prop}{τ:Ty}{x:den τ}{cs:List Value}(h:Rc w ok τ x cs)(ht:τ.isAgg=false):∃ v,cs=[v]:=by
 have:=h.len
 rw[pR ht]at this
 match cs,this with
 | [v],_=>simp
theorem RD.cV{τ:Ty}{x:den τ}{v:Value}(ht:τ.isAgg=false)(h:Rc κ.w κ.ok τ x [v]):RD κ (.zj τ x) v:=by
 have:=RD.zj τ x [v] h
 rwa [Zp ht]at this
theorem RD.uR{τ:Ty}{x:den τ}{v:Value}(h:RD κ (.zj τ x) v):∃ cs,Rc κ.w κ.ok τ x cs/\v=pk τ cs:=by
 cases h with | zj _ _ cs h=>exact⟨cs,h,rfl⟩
theorem RD.xo{τ:Ty}{x:den τ}{v:Value}(h:RD κ (.zj τ x) v)(ht:τ.isAgg=false):Rc κ.w κ.ok τ x [v]:=by
 obtain⟨cs,hc,rfl⟩:=RD.uR h
 obtain⟨u,rfl⟩:=hc.single ht
 rwa [Zp ht]
theorem RD.int{k:IntKind}{n:Int}:RD κ (.zj (.int k) n) (.int k n):=RD.cV rfl (.int k n)
theorem RD.bool{b:Bool}:RD κ (.zj .bool b) (.bool b):=RD.cV rfl (.bool b)
theorem RD.str{s:zh}:RD κ (.zj .str s) (.string ⟨s.toArray⟩):=RD.cV rfl (.str s)
theorem RD.jB{k:IntKind}{n:Int}{v:Value}(h:RD κ (.zj (.int k) n) v):v=.int k n:=by have:=(h.xo rfl).jB; simpa using this
theorem RD.um{b:Bool}{v:Value}(h:RD κ (.zj .bool b) v):v=.bool b:=by have:=(h.xo rfl).um; simpa using this
theorem RD.qO{s:zh}{v:Value}(h:RD κ (.zj .str s) v):v=.string ⟨s.toArray⟩:=by have:=(h.xo rfl).qO; simpa using this
theorem zU.one{d:D}{v:Value}(h:RD κ d v):zU κ [d] [v]:=.cons h .nil
theorem eP{τ:Ty}{x:den τ}{cs:List Value}(h:Rc κ.w κ.ok τ x cs):zU κ (flat τ x) cs:=by
 induction τ generalizing cs with
 | int k=>obtain⟨v,rfl⟩:=h.single rfl; exact .one (.cV rfl h)
 | bool=>obtain⟨v,rfl⟩:=h.single rfl; exact .one (.cV rfl h)
 | str=>obtain⟨v,rfl⟩:=h.single rfl; exact .one (.cV rfl h)
 | sl e _=>obtain⟨v,rfl⟩:=h.single rfl; exact .one (.cV rfl h)
 | nil=>rw[h.zG]; exact .nil
 | cons a b i1 i2=>obtain⟨c1,c2,rfl,h1,h2⟩:=h.cons_inv; exact(i1 h1).append (i2 h2)
 | expr =>
  obtain⟨c1,r1,rfl,h1,t1⟩:=h.VF.cons_inv
  obtain⟨c2,r2,rfl,h2,t2⟩:=t1.cons_inv
  obtain⟨c3,r3,rfl,h3,t3⟩:=t2.cons_inv
  obtain⟨c4,r4,rfl,h4,t4⟩:=t3.cons_inv
  have e4:=t4.zG
  subst e4
  obtain⟨d1,s1,rfl,g1,u1⟩:=h2.cons_inv
  obtain⟨d2,s2,rfl,g2,u2⟩:=u1.cons_inv
  obtain⟨d3,s3,rfl,g3,u3⟩:=u2.cons_inv
  have e5:=u3.zG
  subst e5
  obtain⟨v1,rfl⟩:=h1.single rfl
  obtain⟨v3,rfl⟩:=h3.single rfl
  obtain⟨v4,rfl⟩:=h4.single rfl
  obtain⟨u1,rfl⟩:=g1.single rfl
  obtain⟨u2,rfl⟩:=g2.single rfl
  obtain⟨u3,rfl⟩:=g3.single rfl
  exact .cons (.cV rfl h1) (.cons (.cV rfl g1) (.cons (.cV rfl g2) (.cons (.cV rfl g3) (.cons (.cV rfl h3) (.cons (.cV rfl h4) .nil)))))
theorem hJ:∀ (τ:Ty) (x:den τ),∀ d∈flat τ x,d.one=true
 | .int _,_,d,h | .bool,_,d,h | .str,_,d,h | .sl _,_,d,h=>by simp[flat]at h; subst h; rfl
 | .nil,_,d,h=>by simp[flat]at h
 | .cons a b,x,d,h=>by
  simp only[flat,List.mem_append]at h
  rcases h with h | h
  ·exact hJ a x.1 d h
  ·exact hJ b x.2 d h
 | .expr,x,d,h=>by simp[flat]at h; rcases h with rfl | rfl | rfl | rfl | rfl | rfl<;>rfl
theorem mO:∀ (τ:Ty) (x:den τ),(flat τ x).length=τ.size
 | .int _,_ | .bool,_ | .str,_ | .sl _,_ | .nil,_ | .expr,_=>rfl
 | .cons a b,x=>by simp[flat,Ty.size,mO a,mO b]
theorem iM{v:Value}(h:v.oneCell'=true):v.cells = #[v]:=by
 cases v<;>first | rfl | cases h
theorem vH{d:D}{v:Value}(h:RD κ d v)(ht:d.wR=false):zU κ (zC d) v.cells.toList:=by
 cases h with
 | zj τ x cs h=>rw[nF h.len h.one]; exact eP h
 | agg l vs hl ho h=>exact⟨by simpa[Value.cells,zC]using hl,λi h1 h2=>by simp at h2 ⊢; exact h i h1 h2⟩
 | jC=>cases ht
 | qm e a=>exact .one (.qm e a)
 | tight e l ne blk off f ui qI h hc=>exact .one (.tight e l ne blk off f ui qI h hc)
 | bu e l b v h ht hf=>rw[iM (h.one v (by simp))]; exact .one (.bu e l b v h ht hf)
 | zW=>exact .one .zW
 | wJ=>exact .one .wJ
 | q8=>exact .one .q8
 | wo=>exact .one .wo
 | qC=>exact .one .qC
 | lr v h=>rw[iM h]; exact .one (.lr v h)
 | yA T=>exact .one (.yA T)
 | w8 b blk n d hd h=>exact .one (.w8 b blk n d hd h)
 | yw b T d hd=>exact .one (.yw b T d hd)
 | yI b T blk n d hd h=>exact .one (.yI b T blk n d hd h)
 | ptr b off blk n d hd h=>exact .one (.ptr b off blk n d hd h)
 | qf τ x cs blk off qI h hc=>exact .one (.qf τ x cs blk off qI h hc)
 | wB b q7 e idx off blk o hb h=>exact .one (.wB b q7 e idx off blk o hb h)
 | ms b q7 e off len cap a hb qR ha mX h=>exact .one (.ms b q7 e off len cap a hb qR ha mX h)
 | zK f l vs hl h=>rw[sP]; exact .one (.zK f l vs hl h)
 | iface t d v h=>exact .one (.iface t d v h)
theorem vI{d:D}{v:Value}(h:RD κ d v):∀ x∈zC d,x.one=true:=by
 cases h with
 | zj τ x cs h=>exact hJ τ x
 | agg l vs hl ho h=>exact ho
 | jC=>nofun
 | _=>intro x hx; simp[zC]at hx; subst hx; rfl
theorem RD.sg{d:D}{v:Value}(h:RD κ d v)(ho:d.one=true):v.oneCell'=true:=by
 cases h with
 | zj τ x cs h =>
  have ht:τ.isAgg=false:=by simpa[D.one]using ho
  obtain⟨v,rfl⟩:=h.single ht
  rw[Zp ht]
  exact h.one v (by simp)
 | agg=>cases ho
 | jC=>cases ho
 | lr v h=>exact h
 | zK f l vs=>exact Cc f vs
 | bu e l b v h=>exact h.one v (by simp)
 | _=>rfl
theorem zI{a b:Ty}{x:den a}{y:den b}(h:(xu x:Option (den b))=some y):∃ e:a=b,y=e▸x:=by
 unfold xu at h
 grind
theorem jx{τ:Ty}{d:D}{v:Value}{x:den τ}(h:RD κ d v)(hx:gO τ d=some x)(ht:τ.isAgg=false):Rc κ.w κ.ok τ x [v]:=by
 cases h with
 | zj σ y cs h =>
  obtain⟨rfl,rfl⟩:=zI hx
  obtain⟨u,rfl⟩:=h.single ht
  rwa [Zp ht]
 | qm e a=>obtain⟨rfl,rfl⟩:=zI hx; exact .kR e a
 | tight e l ne blk off f ui qI h hc=>obtain⟨rfl,rfl⟩:=zI hx; exact .sl e _ blk off _ f qI (Nat.le_refl _) h hc
 | bu e l b v h ht hf=>obtain⟨rfl,rfl⟩:=zI hx; exact h
 | zW =>
  cases τ with
  | sl e=>simp[gO]at hx; subst hx; exact .kR e none
  | _=>simp[gO]at hx
 | _=>simp[gO]at hx
theorem iH:∀ (τ:Ty) {ds:List D} {vs:List Value} {x:den τ} {r:List D},zU κ ds vs->vO τ ds=some (x,r) ->
  ∃ c1 c2,vs=c1++c2/\Rc κ.w κ.ok τ x c1/\zU κ r c2
 | .int k,[],_,_,_,_,he | .bool,[],_,_,_,_,he | .str,[],_,_,_,_,he | .sl e,[],_,_,_,_,he | .expr,[],_,_,_,_,he=>by simp[vO]at he
 | .int k,d::r,vs,x,r',h,he=>by
  simp only[vO]at he
  split at he
  ·rename_i y hy; cases he; obtain⟨v,u,rfl,h1,h2⟩:=h.cons_inv; exact⟨[v],u,rfl,jx h1 hy rfl,h2⟩
  ·cases he
 | .bool,d::r,vs,x,r',h,he=>by
  simp only[vO]at he
  split at he
  ·rename_i y hy; cases he; obtain⟨v,u,rfl,h1,h2⟩:=h.cons_inv; exact⟨[v],u,rfl,jx h1 hy rfl,h2⟩
  ·cases he
 | .str,d::r,vs,x,r',h,he=>by
  simp only[vO]at he
  split at he
  ·rename_i y hy; cases he; obtain⟨v,u,rfl,h1,h2⟩:=h.cons_inv; exact⟨[v],u,rfl,jx h1 hy rfl,h2⟩
  ·cases he
 | .sl e,d::r,vs,x,r',h,he=>by
  simp only[vO]at he
  split at he
  ·rename_i y hy; cases he; obtain⟨v,u,rfl,h1,h2⟩:=h.cons_inv; exact⟨[v],u,rfl,jx h1 hy rfl,h2⟩
  ·cases he
 | .nil,ds,vs,x,r,h,he=>by simp only[vO]at he; cases he; exact⟨[],vs,rfl,.nil,h⟩
 | .cons a b,ds,vs,x,r,h,he=>by
  simp only[vO]at he
  split at he
  ·rename_i y r' hy
   split at he
   ·rename_i z r'' hz
    cases he
    obtain⟨c1,c2,rfl,h1,h2⟩:=iH a h hy
    obtain⟨c3,c4,rfl,h3,h4⟩:=iH b h2 hz
    exact⟨c1++c3,c4,by simp,.cons a b y z c1 c3 h1 h3,h4⟩
   ·cases he
  ·cases he
 | .expr,d::r,vs,x,r',h,he=>by
  simp only[vO]at he
  split at he
  ·cases he
  ·rename_i k hk
   split at he
   ·rename_i d1 d2 d3 d4 d5 r0
    split at he
    ·rename_i a n m s l ha hn hm hs hl
     cases he
     obtain⟨v,u,rfl,h0,t0⟩:=h.cons_inv
     obtain⟨v1,u1,rfl,h1,t1⟩:=t0.cons_inv
     obtain⟨v2,u2,rfl,h2,t2⟩:=t1.cons_inv
     obtain⟨v3,u3,rfl,h3,t3⟩:=t2.cons_inv
     obtain⟨v4,u4,rfl,h4,t4⟩:=t3.cons_inv
     obtain⟨v5,u5,rfl,h5,t5⟩:=t4.cons_inv
     refine⟨[v]++(([v1]++([v2]++([v3]++[])))++([v4]++([v5]++[]))),u5,by simp,.expr _ _ _ _ _ ?_,t5⟩
     exact .cons i64 _ k _ _ _ (jx h0 hk rfl) (.cons QP _ (a,n,m,()) _ _ _ (.cons .bool _ a _ _ _ (jx h1 ha rfl) (.cons _ _ n _ _ _ (jx h2 hn rfl) (.cons _ _ m _ _ _ (jx h3 hm rfl) .nil)))
      (.cons .str _ s _ _ _ (jx h4 hs rfl) (.cons _ _ l _ _ _ (jx h5 hl rfl) .nil)))
    ·cases he
   ·cases he
theorem yf{τ:Ty}{d:D}{v:Value}{x:den τ}(h:RD κ d v)(hx:gF τ d=some x):RD κ (.zj τ x) v:=by
 have key:(∀ σ y,d≠.zj σ y)->(bif (d.isAgg==τ.isAgg) && !d.wR then(match vO τ (zC d)with | some (x,[])=>some x | _=>none)else none)=some x->RD κ (.zj τ x) v:=by
  intro hni hx
  cases hc:(d.isAgg==τ.isAgg) && !d.wR with
  | false=>grind
  | true =>
  rw[hc]at hx
  simp at hc
  obtain⟨Pw,ZP⟩:=hc
  split at hx
  ·rename_i y hy
   cases hx
   obtain⟨c1,c2,he,h1,h2⟩:=iH τ (vH h ZP) hy
   have e2:=h2.zG
   subst e2
   rw[List.append_nil]at he
   have hv:v=pk τ c1:=by
    rw[<- he]
    cases hd:d.isAgg with
    | true =>
     cases d<;>simp[D.isAgg]at hd
     cases h with | agg l vs hl ho h=>simp[pk,D.isAgg]at Pw ⊢; simp[<- Pw,Value.cells]
    | false =>
     simp only[pk,<- Pw]
     cases h<;>first | rfl | (rw[sP]; rfl) | (rename_i h _ _; rw[iM (h.one _ (List.mem_singleton.2 rfl))]; rfl) | (rename_i hu; rw[iM hu]; rfl) | (rename_i σ y cs hc; exact absurd rfl (hni σ y)) | (simp at hd; done) | (simp at ZP; done)
   rw[hv]
   exact .zj τ _ c1 h1
  ·cases hx
 cases d with
 | zj σ y=>obtain⟨rfl,rfl⟩:=zI hx; exact h
 | QZ l=>cases hx
 | _=>exact key (λ_ _=>nofun) hx
end
end Go.AM
namespace Go.AM
set_option linter.unusedSectionVars false
variable [we]
def zL(P:Program)(s:Sem Next)(κ:KS)(d:Option D)(zg:St):Prop :=
 ∃ (κ':KS) (n:Next) (v:Value),s.run P κ.w=.ok n κ'.w/\(n=.value v\/(n=.skip/\v=undef))/\κ'.st=zg/\Inv κ'/\Ext κ κ'/\∀ d',d=some d'->RD κ' d' v
section
variable {c:Ctx} {κ:KS}
theorem zL.pure{s:Sem Value}{d:D}{v:Value}(hi:Inv κ)(h:s.run c.P κ.w=.ok v κ.w)(hd:RD κ d v):zL c.P (do Pure.pure (.value (<- s))) κ (some d) κ.st :=
 ⟨κ,.value v,v,by simp[h],.inl rfl,rfl,hi,Ext.refl κ,λ_ he=>by grind⟩
theorem zL.val{d:Option D}{v:Value}(hi:Inv κ)(hd:∀ d',d=some d'->RD κ d' v):zL c.P (Pure.pure (.value v)) κ d κ.st :=
 ⟨κ,.value v,v,rfl,.inl rfl,rfl,hi,Ext.refl κ,hd⟩
theorem y8{t n:Nat}(h:bR c t=some n):∃ i,c.P.info? t=some i/\i.size=n:=by
 unfold bR at h
 cases hi:c.P.info? t with
 | none=>grind
 | some i=>grind
theorem run_sizeOf{t n:Nat}(h:bR c t=some n)(w:World):(sizeOf t).run c.P w=.ok n w:=by
 obtain⟨i,h1,h2⟩:=y8 h
 simp[sizeOf,typeInfo,h1,h2]
theorem iF{t:Nat}{b:Bool}(h:V4 c t=some b)(w:World):(isAgg t).run c.P w=.ok b w:=by
 unfold V4 at h
 cases hu:c.P.underlying t with
 | none=>grind
 | some d =>
  simp only[isAgg,Sem.run_bind,run_underlying hu]
  cases d<;>simp[hu]at h<;>simp[<- h]
theorem xh{t:Nat}{τ:Ty}(h:vU c t τ=true):bR c t=some τ.size/\V4 c t=some τ.isAgg:=by
 unfold vU at h
 simp at h
 obtain⟨⟨_,h1⟩,h2⟩:=h
 constructor
 ·split at h1
  ·rename_i n hn; rw[hn,Nat.eq_of_beq_eq_true h1]
  ·cases h1
 ·grind
theorem nS{t:Nat}{τ:Ty}(h:vU c t τ=true):OG τ t:=by
 unfold vU at h
 simp at h
 intro e
 subst e
 exact Nat.eq_of_beq_eq_true h.1.1
omit [we]in
theorem addr_add(blk o j:Nat):(⟨blk,o,none⟩:Addr).add j=⟨blk,o+j,none⟩:=by unfold Addr.add; split<;>simp_all
theorem bL{t:Nat}{b:Bool}{n blk o:Nat}{cs:List Value}(ha:V4 c t=some b)(hn:bR c t=some n)(hl:cs.length=n)(h1:b=false->n=1)
  (hc:∀ j v,cs[j]? = some v->κ.w.cell? ⟨blk,o+j,none⟩=some v) :
  (loadVar t ⟨blk,o,none⟩).run c.P κ.w=.ok (if b then .agg cs.toArray else cs.headD undef) κ.w:=by
 simp only[loadVar,Sem.run_bind,iF ha]
 cases b with
 | true =>
  simp[if_true,run_sizeOf hn]
  rw[<- hl,run_loadCells_list κ.w ⟨blk,o,none⟩ cs (λj v hj=>by rw[addr_add]; exact hc j v hj)]
  simp
 | false =>
  have:=h1 rfl
  subst this
  match cs,hl with
  | [v],_ =>
   have:=hc 0 v rfl
   simp at this
   simp[this]
theorem FY{t:Nat}{τ:Ty}{x:den τ}{cs:List Value}{blk o:Nat}(ht:vU c t τ=true)(h:Rc κ.w κ.ok τ x cs)
  (hc:∀ j v,cs[j]? = some v->κ.w.cell? ⟨blk,o+j,none⟩=some v):(loadVar t ⟨blk,o,none⟩).run c.P κ.w=.ok (pk τ cs) κ.w:=by
 obtain⟨h1,h2⟩:=xh ht
 rw[bL (c:=c) h2 h1 h.len (λe=>pR e) hc]
 rfl
theorem xD{t:T (Option D)}{st zg:St}{d:Option D}:(zk (.val t) st).leads (d,zg)↔t.leads d/\zg=st:=by
 simp only[zk,T.zq,T.leads]
 grind
theorem gQ{k:St->T (Option D)}{st zg:St}{d:Option D}:(zk (.rd k) st).leads (d,zg)↔(k st).leads d/\zg=st:=by
 simp only[zk,T.zq,T.leads]
 grind
theorem z7{st:St}{r:Option D×St}:¬ (zk bad st).leads r:=by nofun
theorem uB{x:D}{st zg:St}{d:Option D}:(zk (AM.val x) st).leads (d,zg)↔d=some x/\zg=st:=by
 rw[AM.val,xD]; simp only[T.leads]; exact⟨λh=>⟨h.1.symm,h.2⟩,λh=>⟨h.1.symm,h.2⟩⟩
theorem xW{p:Prop}{x:D}{st zg:St}{d:Option D}:(zk (.val (.zb p (.ret (some x)))) st).leads (d,zg)↔p/\d=some x/\zg=st:=by
 rw[xD]; simp only[T.leads]
 grind
theorem tO{x:Option D}{st zg:St}{d:Option D}(h:(zk (MW x) st).leads (d,zg)):∃ y,x=some y/\d=some y/\zg=st:=by
 cases x with
 | none=>exact absurd h z7
 | some y=>rw[MW,xD]at h; exact⟨y,rfl,h.1.symm,h.2⟩
theorem si:∀ (τ:Ty) (x:den τ) {cs:List Value},zU κ (flat τ x) cs->Rc κ.w κ.ok τ x cs
 | .int k,x,cs,h=>by obtain⟨v,r,rfl,h1,h2⟩:=h.cons_inv; rw[h2.zG]; exact h1.xo rfl
 | .bool,x,cs,h=>by obtain⟨v,r,rfl,h1,h2⟩:=h.cons_inv; rw[h2.zG]; exact h1.xo rfl
 | .str,x,cs,h=>by obtain⟨v,r,rfl,h1,h2⟩:=h.cons_inv; rw[h2.zG]; exact h1.xo rfl
 | .sl e,x,cs,h=>by obtain⟨v,r,rfl,h1,h2⟩:=h.cons_inv; rw[h2.zG]; exact h1.xo rfl
 | .nil,x,cs,h=>by rw[h.zG]; exact .nil
 | .cons a b,x,cs,h=>by
  obtain⟨c1,c2,rfl,h1,h2⟩:=zU.JZ h
  exact .cons a b x.1 x.2 c1 c2 (si a x.1 h1) (si b x.2 h2)
 | .expr,.mk k (a,n,m,()) s l,cs,h=>by
  obtain⟨v,u,rfl,h0,t0⟩:=h.cons_inv
  obtain⟨v1,u1,rfl,h1,t1⟩:=t0.cons_inv
  obtain⟨v2,u2,rfl,h2,t2⟩:=t1.cons_inv
  obtain⟨v3,u3,rfl,h3,t3⟩:=t2.cons_inv
  obtain⟨v4,u4,rfl,h4,t4⟩:=t3.cons_inv
  obtain⟨v5,u5,rfl,h5,t5⟩:=t4.cons_inv
  rw[t5.zG]
  exact .expr _ _ _ _ _ (.cons i64 _ k _ _ _ (h0.xo rfl) (.cons QP _ (a,n,m,()) _ _ _ (.cons .bool _ a _ _ _ (h1.xo rfl) (.cons (.sl u32) (.cons (.sl u32) .nil) n (m,()) [v2] ([v3]++[]) (h2.xo rfl) (.cons (.sl u32) .nil m () [v3] [] (h3.xo rfl) .nil)))
      (.cons .str _ s _ _ _ (h4.xo rfl) (.cons (.sl .expr) .nil l () [v5] [] (h5.xo rfl) .nil))))
theorem Gz{t:Nat}{d r:D}{off:Nat}{vs:List Value}(h:Jj c t d off=some r)(hd:zU κ (zC d) vs)(dy:∀ x∈zC d,x.one=true) :
  (∃ n,V4 c t=some true/\bR c t=some n/\off+n<=vs.length/\RD κ r (.agg ((vs.drop off).take n).toArray)) \/
  (∃ v,V4 c t=some false/\vs[off]? = some v/\RD κ r v):=by
 unfold Jj at h
 split at h
 ·rename_i ha
  split at h
  ·cases h
  ·rename_i n hn
   refine .inl ⟨n,ha,hn,?_⟩
   cases hb:(Nat.beq off 0&&Nat.beq n (zC d).length&&d.z0A)with
   | true =>
    rw[hb]at h
    simp at h
    subst h
    simp only[Bool.and_eq_true]at hb
    obtain⟨⟨h1,h2⟩,h3⟩:=hb
    have e1:off=0:=Nat.eq_of_beq_eq_true h1
    have e2:n=(zC d).length:=Nat.eq_of_beq_eq_true h2
    subst e1
    have hl:=hd.1
    rw[e2,hl]
    refine⟨by omega,?_⟩
    simp
    cases d with
    | zj τ x =>
     have:=RD.zj τ x vs (si τ x hd)
     simpa[pk,show τ.isAgg=true from h3]using this
    | agg l=>exact .agg l vs hl dy hd.2
    | _=>cases h3
   | false =>
    rw[hb]at h
    split at h
    ·rename_i l hl
     cases h
     unfold Xe at hl
     cases hle:Nat.ble (off+n) (zC d).length with
     | false=>grind
     | true =>
      rw[hle]at hl
      cases hl
      have Q3:=Nat.le_of_ble_eq_true hle
      refine⟨by rw[<- hd.1]; exact Q3,?_⟩
      have ht:=(hd.drop off).take n
      exact .agg _ _ ht.1 (λx hx=>dy x (List.mem_of_mem_drop (List.mem_of_mem_take hx))) ht.2
    ·cases h
 ·rename_i ha
  obtain⟨v,h1,h2⟩:=hd.get h
  grind
 ·cases h
theorem Zb{t:Nat}{d r:D}{off blk:Nat}{vs:List Value}(base:Nat)(h:Jj c t d off=some r)(hd:zU κ (zC d) vs)(dy:∀ x∈zC d,x.one=true)
  (hc:∀ j v,vs[j]? = some v->κ.w.cell? ⟨blk,base+j,none⟩=some v):∃ v,(loadVar t ⟨blk,base+off,none⟩).run c.P κ.w=.ok v κ.w/\RD κ r v:=by
 rcases Gz h hd dy with⟨n,ha,hn,hle,hr⟩ | ⟨v,ha,hv,hr⟩
 ·refine⟨_,?_,hr⟩
  rw[bL (c:=c) (b:=true) (cs:=(vs.drop off).take n) ha hn (by grind) nofun]
  ·simp
  ·grind
 ·refine⟨v,?_,hr⟩
  simp only[loadVar,Sem.run_bind,iF ha]
  simp[hc off v hv]
theorem l6{blk:Nat}{cs:Array Value}{t:TypeId}{fz:Nat×Nat}(h:κ.w.heap[blk]? = some (.cells cs t fz))(o:Nat):κ.w.cell? ⟨blk,o,none⟩=cs[o]? := by
 simp[World.cell?,h]
theorem Bj{t:Nat}{x:Option D}{v:Value}{d:Option D}{zg:St}(hi:Inv κ)(hx:∀ y,x=some y->RD κ y v)(h:(zk (mj c t x) κ.st).leads (d,zg)) :
  zL c.P (do Pure.pure (.value (<- Instr.loadAt t v))) κ d zg:=by
 unfold mj at h
 split at h
 ·rename_i τ y
  cases ht:vU c t τ with
  | false=>rw[ht]at h; exact absurd h z7
  | true =>
   rw[ht,cond_true,uB]at h
   obtain⟨rfl,rfl⟩:=h
   cases hx _ rfl with
   | qf _ _ cs blk off qI hr hc =>
    exact zL.pure hi (by simp[Instr.loadAt,Instr.sureAddr,FY ht hr hc]) (.zj τ y cs hr)
 ·rename_i b off
  rw[gQ]at h
  obtain⟨h,rfl⟩:=h
  split at h
  ·rename_i d0 hb
   cases rG:d0.tk with
   | true=>rw[rG]at h; exact h.elim
   | false =>
   rw[rG,cond_false]at h
   split at h
   ·rename_i r hr
    cases h
    cases hx _ rfl with
    | ptr _ _ blk n d1 hd hp =>
     obtain⟨b6,n',cs,T,g1,g2,g3,g4,g5⟩:=(hi.blk b _ hb:xF κ b d0).cells rG
     rw[hp]at g1
     cases g1
     obtain⟨v,h1,h2⟩:=Zb (c:=c) (blk:=blk) 0 hr g4 g5.1 (λj v hj=>by rw[l6 g2]; simpa using hj)
     rw[Nat.zero_add]at h1
     exact zL.pure hi (by simp[Instr.loadAt,Instr.sureAddr,h1]) h2
   ·exact h.elim
  ·exact h.elim
 ·rename_i b q7 e idx off
  rw[gQ]at h
  obtain⟨h,rfl⟩:=h
  split at h
  ·rename_i uF e' xs hb
   cases he:decide (e'=e)with
   | false=>rw[he]at h; exact h.elim
   | true =>
    rw[he,cond_true]at h
    have JJ:e'=e:=of_decide_eq_true he
    subst JJ
    obtain⟨⟨rfl,qc⟩,h⟩:=h
    split at h
    ·rename_i r hr
     cases h
     cases hx _ rfl with
     | wB _ _ _ _ _ blk o hold hp =>
      obtain⟨n,p1,rfl⟩:=hp xs hb qc
      obtain⟨vb,⟨Zn,_⟩ | ⟨b6,n',cs,T,g1,g2,g3,g4,gr,f,g5⟩⟩:=hi.blk b _ hb
      ·grind
      ·rw[p1]at g1
       cases g1
       have hg:xs.getD idx (zd e')=xs[idx]:=by simp[List.getD,List.getElem?_eq_getElem qc]
       rw[hg]at hr
       obtain⟨k1,k2⟩:=g5 idx qc
       obtain⟨v,h1,h2⟩:=Zb (c:=c) (blk:=blk) (idx*e'.size) hr (eP k1) (hJ _ _) (λj v hj=>by rw[l6 g2]; exact k2 j v hj)
       exact zL.pure hi (by simp[Instr.loadAt,Instr.sureAddr,h1]) h2
    ·exact h.elim
  ·exact h.elim
 ·exact absurd h z7
end
end Go.AM
namespace Go.AM
set_option linter.unusedSectionVars false
variable [we]
section
variable {c:Ctx} {κ:KS}
theorem W0{s f o n:Nat}(h:rX c s f=some (o,n)):∃ fs fd,c.P.underlying s=some (.struct fs)/\fs[f]? = some fd/\bR c fd.type=some n/\n≠0/\fd.offset=o:=by
 unfold rX at h
 split at h
 ·rename_i fs hu
  split at h
  ·rename_i fd hf
   split at h
   ·rename_i m hm
    cases hb:Nat.beq m 0 with
    | true=>grind
    | false =>
     rw[hb]at h
     cases h
     refine⟨fs,fd,hu,hf,hm,?_,rfl⟩
     intro e
     subst e
     cases hb
   ·cases h
  ·cases h
 ·cases h
theorem fG{s f o n blk p:Nat}(h:rX c s f=some (o,n))(w:World) :
  (Instr.fieldAt s (.pointer (some ⟨blk,p,none⟩)) f).run c.P w=.ok (.pointer (some ⟨blk,p+o,none⟩)) w:=by
 obtain⟨fs,fd,h1,h2,h3,h4,h5⟩:=W0 h
 simp[Instr.fieldAt,run_underlying h1,h2,Instr.sureAddr,fieldPlace,run_sizeOf h3,h4,addr_add]
theorem tZ:∀ (τ:Ty) (x:den τ) (n:Nat) {d:D} {o s:Nat} {cs:List Value},eO τ x n=some (d,o,s)->Rc κ.w κ.ok τ x cs ->
  ∃ (σ:Ty) (y:den σ) (c2:List Value),d=.qf σ y/\Rc κ.w κ.ok σ y c2/\s=σ.size/\∀ j v,c2[j]? = some v->cs[o+j]? = some v
 | .cons a b,x,0,d,o,s,cs,h,hr=>by
  simp only[eO]at h
  cases h
  obtain⟨c1,c2,rfl,h1,h2⟩:=hr.cons_inv
  grind
 | .cons a b,x,n+1,d,o,s,cs,h,hr=>by
  simp only[eO]at h
  split at h
  ·rename_i d' o' s' h'
   cases h
   obtain⟨c1,c2,rfl,h1,h2⟩:=hr.cons_inv
   obtain⟨σ,y,c3,e1,e2,e3,e4⟩:=tZ b x.2 n h' h2
   refine⟨σ,y,c3,e1,e2,e3,λj v hj => ?_⟩
   have:=h1.len
   grind
  ·cases h
 | .expr,.mk k (a,n,m,()) s l,i,d,o,z,cs,h,hr=>by
  obtain⟨c1,r1,rfl,h1,t1⟩:=hr.VF.cons_inv
  obtain⟨c2,r2,rfl,h2,t2⟩:=t1.cons_inv
  obtain⟨c3,r3,rfl,h3,t3⟩:=t2.cons_inv
  obtain⟨c4,r4,rfl,h4,t4⟩:=t3.cons_inv
  have e4:=t4.zG
  subst e4
  have l2:c2.length=3:=h2.len
  obtain⟨v1,rfl⟩:=h1.single rfl
  obtain⟨v3,rfl⟩:=h3.single rfl
  obtain⟨v4,rfl⟩:=h4.single rfl
  match i,h with
  | 0,h=>simp only[eO]at h; cases h; exact⟨i64,_,_,rfl,h1,rfl,λj v hj=>by match j,hj with | 0,hj=>simpa using hj⟩
  | 1,h => 
   simp only[eO]at h; cases h
   refine⟨QP,_,_,rfl,h2,rfl,λj v hj => ?_⟩
   grind
  | 2,h =>
   simp only[eO]at h; cases h
   refine⟨.str,_,_,rfl,h3,rfl,λj v hj => ?_⟩
   grind
  | 3,h =>
   simp only[eO]at h; cases h
   refine⟨.sl .expr,_,_,rfl,h4,rfl,λj v hj => ?_⟩
   match j,hj with
   | 0,hj =>
    simp only[List.cons_append,List.nil_append,Nat.add_zero,List.getElem?_cons_succ]
    rw[List.getElem?_append_right (by omega),l2]; simpa using hj
  | n+4,h=>simp[eO]at h
 | .int _,_,_,_,_,_,_,h,_ | .bool,_,_,_,_,_,_,h,_ | .str,_,_,_,_,_,_,h,_ | .sl _,_,_,_,_,_,_,h,_ | .nil,_,_,_,_,_,_,h,_=>by simp[eO]at h
theorem tc{s f:Nat}{x:Option D}{v:Value}{d:Option D}{zg:St}(hi:Inv κ)(hx:∀ y,x=some y->RD κ y v)(h:(zk (fu c s f x) κ.st).leads (d,zg)) :
  zL c.P (do Pure.pure (.value (<- Instr.fieldAt s v f))) κ d zg:=by
 unfold fu at h
 split at h
 ·exact absurd h z7
 ·rename_i o n hf
  split at h
  ·rename_i τ y
   split at h
   ·rename_i d' o' n' pO
    cases hb:Nat.beq o o'&&Nat.beq n n' with
    | false=>rw[hb]at h; exact absurd h z7
    | true =>
     rw[hb,cond_true,uB]at h
     obtain⟨rfl,rfl⟩:=h
     simp only[Bool.and_eq_true]at hb
     have e1:o=o':=Nat.eq_of_beq_eq_true hb.1
     subst e1
     cases hx _ rfl with
     | qf _ _ cs blk off qI hr hc =>
      obtain⟨σ,z,c2,rfl,g1,g2,g3⟩:=tZ τ y f pO hr
      exact zL.pure hi (fG hf κ.w) (.qf σ z c2 blk (off+o) qI g1 λj u hj=>by grind)
   ·exact absurd h z7
  ·rename_i b off
   obtain⟨rfl,rfl⟩:=h
   cases hx _ rfl with
   | ptr _ _ blk n d hd hp=>exact zL.pure hi (fG hf κ.w) (.ptr b (off+o) blk n d hd hp)
  ·rename_i b q7 e idx off
   obtain⟨rfl,rfl⟩:=h
   cases hx _ rfl with
   | wB _ _ _ _ _ blk p hold hp =>
    refine zL.pure hi (fG hf κ.w) (.wB b q7 e idx (off+o) blk (p+o) hold λxs h1 h2 => ?_)
    grind
  ·exact absurd h z7
theorem JK{s f:Nat}{x:Option D}{v:Value}{d:Option D}{zg:St}(hi:Inv κ)(hx:∀ y,x=some y->RD κ y v)(h:(zk (XR c s f x) κ.st).leads (d,zg)) :
  zL c.P (do Pure.pure (.value (<- Instr.field s v f))) κ d zg:=by
 unfold XR at h
 split at h
 ·rename_i fs hu
  split at h
  ·rename_i fd hf
   split at h
   ·rename_i y
    obtain⟨r,hr,rfl,rfl⟩:=tO h
    cases DQ:y.vN with
    | false=>grind
    | true =>
    rw[DQ,cond_true]at hr
    have hy:=hx _ rfl
    have ⟨vs,hv,hvs⟩:∃ vs,v=.agg vs/\zU κ (zC y) vs.toList:=by
     have OE:=vH hy (by cases y<;>simp[D.vN,D.wR]at DQ ⊢)
     cases hy<;>simp[D.vN]at DQ
     ·rename_i τ z cs hc
      exact⟨cs.toArray,by simp[pk,DQ],by simpa[pk,DQ,Value.cells]using OE⟩
     ·rename_i l vs hl ho hh
      exact⟨vs.toArray,rfl,by simpa[Value.cells]using OE⟩
    subst hv
    rcases Gz hr hvs (vI hy)with⟨n,ha,hn,hle,hrd⟩ | ⟨u,ha,L5,hrd⟩
    ·refine zL.pure hi ?_ hrd
     simp only[Instr.field,Sem.run_bind,run_underlying hu,Result.andThen_ok,hf,asAgg,Sem.run_pure,part,iF ha,if_true,run_sizeOf hn]
     congr 2
     grind
    ·refine zL.pure hi ?_ hrd
     have:vs[fd.offset]? = some u:=by simpa using L5
     simp[Instr.field,run_underlying hu,hf,asAgg,part,iF ha,this]
   ·exact absurd h z7
  ·exact absurd h z7
 ·exact absurd h z7
theorem xZ{t e:Nat}(h:b9 c t=some e):c.P.underlying t=some (.slice e):=by
 unfold b9 at h
 grind
theorem xz{x:Option D}{k:IntKind}{n:Int}{v:Value}(h:asInt x=some (k,n))(hx:∀ y,x=some y->RD κ y v):v=.int k n:=by
 unfold asInt at h
 split at h
 ·cases h; exact(hx _ rfl).jB
 ·cases h
theorem fA{x:Option D}{s:zh}{v:Value}(h:sI x=some s)(hx:∀ y,x=some y->RD κ y v):v=.string ⟨s.toArray⟩:=by
 unfold sI at h
 split at h
 ·cases h; exact(hx _ rfl).qO
 ·cases h
theorem cN{x:Option D}{b:Bool}{v:Value}(h:asBool x=some b)(hx:∀ y,x=some y->RD κ y v):v=.bool b:=by
 unfold asBool at h
 split at h
 ·cases h; exact(hx _ rfl).um
 ·cases h
theorem getD_lt{α:Type}{l:List α}{i:Nat}(h:i<l.length)(d:α):List.getD l i d=l[i]:=by grind
theorem iE{a:Ty}(x:den a):(xu x:Option (den a))=some x:=by simp[xu]
theorem Vu{w:World}{ok:Nat->Prop}:∀ (τ:Ty) (e:Ty) (n:Nat) (x:den τ) (cs:List Value) (i:Nat),U0 τ=some (e,n)->Rc w ok τ x cs->i<n ->
  ∃ c,Rc w ok e (p7 e τ x i) c/\∀ j v,c[j]? = some v->cs[i*e.size+j]? = some v
 | .cons a b,e,n,x,cs,i,ht,hr,hi=>by
  obtain⟨c1,c2,rfl,h1,h2⟩:=hr.cons_inv
  have key:∀ m,(b=.nil/\m=0\/U0 b=some (a,m))->i<m+1->∃ c,Rc w ok a (p7 a (.cons a b) x i) c/\∀ j v,c[j]? = some v->(c1++c2)[i*a.size+j]? = some v:=by
   intro m hm hi
   cases i with
   | zero =>
    refine⟨c1,by simp only[p7,iE]; exact h1,λj v hj => ?_⟩
    grind
   | succ i =>
    rcases hm with⟨rfl,rfl⟩ | hm
    ·omega
    ·obtain⟨c,g1,g2⟩:=Vu b a m x.2 c2 i hm h2 (by omega)
     refine⟨c,g1,λj v hj => ?_⟩
     have hl:=h1.len
     grind
  unfold U0 at ht
  split at ht
  ·cases ht; exact key 0 (.inl ⟨rfl,rfl⟩) (by omega)
  ·grind
 | .int _,_,_,_,_,_,ht,_,_=>by cases ht
 | .bool,_,_,_,_,_,ht,_,_=>by cases ht
 | .str,_,_,_,_,_,ht,_,_=>by cases ht
 | .sl _,_,_,_,_,_,ht,_,_=>by cases ht
 | .nil,_,_,_,_,_,ht,_,_=>by cases ht
 | .expr,_,_,_,_,_,ht,_,_=>by cases ht
theorem B7{t n e:Nat}(h:Pr c t=some (n,e)):c.P.underlying t=some (.array n e):=by
 unfold Pr at h
 grind
theorem Q1{t:Nat}{x i:Option D}{k:IntKind}{n:Int}{v u:Value}{d:Option D}{zg:St}(hi:Inv κ)(hx:∀ y,x=some y->RD κ y v)(hy:∀ y,i=some y->RD κ y u)(XC:asInt i=some (k,n))
  (h:(zk (sW c t x n) κ.st).leads (d,zg)):zL c.P (do Pure.pure (.value (<- Instr.indexAt t v u))) κ d zg:=by
 have L5:=xz XC hy
 subst L5
 unfold sW at h
 split at h
 ·rename_i m et τ y ha
  have hu:=B7 ha
  split at h
  ·rename_i e m' Y3
   cases ht:vU c et e&&Nat.beq m m' with
   | false=>rw[ht]at h; exact absurd h z7
   | true =>
    rw[ht,cond_true,xW]at h
    simp only[Bool.and_eq_true]at ht
    have:=Nat.eq_of_beq_eq_true ht.2
    subst this
    obtain⟨⟨h0,h1⟩,rfl,rfl⟩:=h
    obtain⟨hs,_⟩:=xh ht.1
    cases hx _ rfl with
    | qf _ _ cs blk off qI WX hc =>
     obtain⟨cc,g1,g2⟩:=Vu τ e m y cs n.toNat Y3 WX (by omega)
     refine zL.pure hi ?_ (.qf e _ cc blk (off+n.toNat*e.size) qI g1 λj v hj=>by grind)
     simp[Instr.indexAt,asIntOf,run_underlying hu,h0,h1,run_sizeOf hs,addr_add,Instr.sureAddr]
  ·exact absurd h z7
 ·exact absurd h z7
theorem sD{t:Nat}{x i:Option D}{v u:Value}{d:Option D}{zg:St}(hi:Inv κ)(hx:∀ y,x=some y->RD κ y v)(hy:∀ y,i=some y->RD κ y u)
  (h:(zk (fV c t x i) κ.st).leads (d,zg)):zL c.P (do Pure.pure (.value (<- Instr.indexAt t v u))) κ d zg:=by
 unfold fV at h
 split at h
 ·rename_i k n het XC
  exact Q1 hi hx hy XC h
 ·rename_i et k n het XC
  have hu:=xZ het
  have L5:=xz XC hy
  subst L5
  split at h
  ·rename_i e l
   cases ht:vU c et e with
   | false=>rw[ht]at h; exact absurd h z7
   | true =>
    rw[ht,cond_true,xW]at h
    obtain⟨⟨h0,h1⟩,rfl,rfl⟩:=h
    obtain⟨hs,_⟩:=xh ht
    have qc:n.toNat<List.length l:=by omega
    rcases((hx _ rfl).xo rfl).dr with⟨rfl,_⟩ | ⟨blk,off,cap,f,he,qI,qR,hh,hc⟩
    ·cases qc
    ·cases he
     rw[getD_lt qc]
     refine zL.pure hi ?_ (.qf e _ (f n.toNat) blk (off+n.toNat*e.size) qI (hh _ qc) λj v hj=>hc _ qc j v hj)
     simp[Instr.indexAt,asIntOf,run_underlying hu,h0,h1,run_sizeOf hs,addr_add]
  ·rename_i e l ne
   cases ht:vU c et e with
   | false=>rw[ht]at h; exact absurd h z7
   | true =>
    rw[ht,cond_true,xW]at h
    obtain⟨⟨h0,h1⟩,rfl,rfl⟩:=h
    obtain⟨hs,_⟩:=xh ht
    have qc:n.toNat<List.length l:=by omega
    cases hx _ rfl with
    | qm=>cases qc
    | tight _ _ _ blk off f ui qI hh hc =>
     rw[getD_lt qc]
     refine zL.pure hi ?_ (.qf e _ (f n.toNat) blk (off+n.toNat*e.size) qI (hh _ qc) λj v hj=>hc _ qc j v hj)
     simp[Instr.indexAt,asIntOf,run_underlying hu,h0,h1,run_sizeOf hs,addr_add]
  ·rename_i b q7 e off len
   cases ht:vU c et e with
   | false=>rw[ht]at h; exact absurd h z7
   | true =>
    rw[ht,cond_true,xW]at h
    obtain⟨⟨h0,h1⟩,rfl,rfl⟩:=h
    obtain⟨hs,_⟩:=xh ht
    cases hx _ rfl with
    | ms _ _ _ _ _ cap a hold qR ha mX hm =>
     cases a with
     | none=>grind
     | some p =>
      have hp:=mX p rfl
      obtain⟨blk,o,sp⟩:=p
      subst hp
      refine zL.pure hi (v:=.pointer (some ⟨blk,o+n.toNat*e.size,none⟩)) ?_ (.wB b q7 e (off+n.toNat) 0 blk _ hold λxs hb qc => ?_)
      ·simp[Instr.indexAt,asIntOf,run_underlying hu,h0,h1,run_sizeOf hs,addr_add]
      ·obtain⟨hle,⟨_,_,hv,_⟩ | ⟨b6,n',o',rH,h3,h4,h5,h6,h7⟩⟩:=hm xs hb
       ·cases hv
       ·grind
  ·exact absurd h z7
 ·exact absurd h z7
theorem B6(s:zh){i:Nat}(h:i<s.length):(⟨s.toArray⟩:ByteArray)[i]? = some s[i]:=by
 have vb:(⟨s.toArray⟩:ByteArray).size=s.length:=rfl
 rw[getElem?_pos _ _ (by grind)]
 rfl
theorem Ku{t:Nat}{x i:Option D}{v u:Value}{d:Option D}{zg:St}(hi:Inv κ)(hx:∀ y,x=some y->RD κ y v)(hy:∀ y,i=some y->RD κ y u)
  (h:(zk (Wa c t x i) κ.st).leads (d,zg)):zL c.P (do Pure.pure (.value (<- Instr.index t v u))) κ d zg:=by
 unfold Wa at h
 split at h
 ·rename_i k n s XC hs hu
  have L5:=xz XC hy
  subst L5
  have hv:=fA hs hx
  subst hv
  obtain⟨⟨h0,h1⟩,rfl,rfl⟩:=h
  have qc:n.toNat<s.length:=by omega
  rw[getD_lt qc]
  exact zL.pure hi (by simp[Instr.index,asIntOf,run_underlying hu,h0,B6 s qc]) RD.int
 ·exact absurd h z7
def pA(κ:KS):Option (Option D)->Option Value->Prop
 | none,none=>True
 | some x,some v=>∀ y,x=some y->RD κ y v
 | _,_=>False
theorem Zm{d n:Int}{x:Option (Option D)}{v:Option Value}(h:Bt d x=some n)(hx:pA κ x v):(x=none/\v=none/\n=d)\/(x.isSome/\∃ k,v=some (.int k n)):=by
 cases x with
 | none=>cases v with
  | none=>exact .inl ⟨rfl,rfl,by simpa[Bt]using h.symm⟩
  | some v=>exact hx.elim
 | some x=>cases v with
  | none=>exact hx.elim
  | some v =>
   simp only[Bt]at h
   split at h
   ·rename_i k i hk; cases h; exact .inr ⟨rfl,k,by rw[xz hk hx]⟩
   ·cases h
end
end Go.AM
namespace Go.AM
set_option linter.unusedSectionVars false
variable [we]
section
variable {c:Ctx} {κ:KS}
theorem uA{P:Program}{isS:Bool}{len cap:Nat}{lo hi mx:Option Value}{l h:Int}{m:Nat}
  (hl:(lo=none/\l=0)\/∃ k,lo=some (.int k l)) (hh:(hi=none/\mx=none/\h=len)\/∃ k,hi=some (.int k h))
  (hm:(mx=none/\m=cap)\/∃ k,mx=some (.int k m)) (h0:0<=l) (h1:l<=h) (h2:h<=m) (h3:m<=cap) (w:World) :
  (Instr.sliceBounds isS len cap lo hi mx).run P w=.ok (l.toNat,h.toNat,m) w:=by
 have hh0:(0:Int)<=h:=by omega
 have Xq:l<=(h.toNat:Int):=by omega
 rcases hl with⟨rfl,rfl⟩ | ⟨k1,rfl⟩<;>rcases hm with⟨rfl,rfl⟩ | ⟨k3,rfl⟩<;>rcases hh with⟨rfl,hx,rfl⟩ | ⟨k2,rfl⟩ <;>
  first
   | (cases hx; done)
   | (simp[Instr.sliceBounds,run_sliceBound, *]; done)
   | (simp[Instr.sliceBounds,run_sliceBound, *]; rw[run_sliceBound _ _ _ _ _ h0 Xq]; rfl)
theorem VB(s:zh)(l h:Int):(⟨s.toArray⟩:ByteArray).extract l.toNat h.toNat=⟨(cx l h s).toArray⟩:=by
 apply ByteArray.ext
 simp[cx,List.drop_take]
theorem Zt{n:Int}{x:Option (Option D)}{v:Option Value}(h:Bt 0 x=some n)(hx:pA κ x v):(v=none/\n=0)\/∃ k,v=some (.int k n):=by
 rcases Zm h hx with⟨_,h1,h2⟩ | ⟨_,h1⟩
 ·grind
 ·grind
theorem W2{d n:Int}{x:Option (Option D)}{v:Option Value}(h:Bt d x=some n)(hx:pA κ x v):(v=none/\n=d)\/∃ k,v=some (.int k n):=by
 rcases Zm h hx with⟨_,h1,h2⟩ | ⟨_,h1⟩
 ·grind
 ·grind
theorem ni{v:Option Value}(h:pA κ none v):v=none:=by cases v with | none=>rfl | some _=>exact h.elim
theorem iG{e:Ty}{l:List (den e)}{lo hi:Int}(h0:0<=lo)(h1:lo<=hi)(h2:hi<=(l.length:Int)) :
  (vw lo hi l).length=hi.toNat-lo.toNat/\∀ i (BJ:i<(vw lo hi l).length),∃ h:lo.toNat+i<l.length,(vw lo hi l)[i]=l[lo.toNat+i]:=by
 have hlen:(vw lo hi l).length=hi.toNat-lo.toNat:=by simp[vw]; omega
 refine⟨hlen,λi BJ=>⟨by omega,?_⟩⟩
 simp[vw]
theorem UY{e:Ty}{l:List (den e)}{lo hi:Int}{blk off cap m:Nat}{f:Nat->List Value}(qI:κ.ok blk)
  (hh:∀ i (hi:i<l.length),Rc κ.w κ.ok e l[i] (f i)) (hc:∀ i,i<l.length->∀ j v,(f i)[j]? = some v->κ.w.cell? ⟨blk,off+i*e.size+j,none⟩=some v)
  (h0:0<=lo) (h1:lo<=hi) (h2:hi<=(l.length:Int)) (hm:hi<=(m:Int)) (qR:m<=cap) :
  (∀ i (BJ:i<(vw lo hi l).length),Rc κ.w κ.ok e (vw lo hi l)[i] (f (lo.toNat+i))) /\
  (∀ i,i<(vw lo hi l).length->∀ j v,(f (lo.toNat+i))[j]? = some v ->
   κ.w.cell? ⟨blk,(if m=lo.toNat then off else off+lo.toNat*e.size)+i*e.size+j,none⟩=some v)/\(vw lo hi l).length<=m-lo.toNat:=by
 obtain⟨hl,hg⟩:=iG h0 h1 h2
 refine⟨λi BJ => ?_,λi BJ j v hj => ?_,by omega⟩
 ·obtain⟨h3,h4⟩:=hg i BJ
  rw[h4]; exact hh _ h3
 ·obtain⟨h3,h4⟩:=hg i BJ
  have:=hc _ h3 j v hj
  rw[if_neg (by omega)]
  rw[Nat.add_mul,<- Nat.add_assoc]at this
  exact this
theorem JR{t:Nat}{x:Option D}{lo hi mx:Option (Option D)}{v:Value}{vl vh vm:Option Value}{d:Option D}{zg:St}(hI:Inv κ)(hx:∀ y,x=some y->RD κ y v)
  (hlo:pA κ lo vl) (hhi:pA κ hi vh) (S9:pA κ mx vm)
  (h:(zk (Wd c t x lo hi mx) κ.st).leads (d,zg)):zL c.P (do Pure.pure (.value (<- Instr.sliceAt t v vl vh vm))) κ d zg:=by
 unfold Wd at h
 split at h
 ·rename_i s
  obtain⟨s,rfl⟩:∃ s':zh,s=s':=⟨s,rfl⟩
  split at h
  ·rename_i l hh hu hl hh'
   rw[xW]at h
   obtain⟨⟨h0,h1,h2⟩,rfl,rfl⟩:=h
   have hv:=(hx _ rfl).qO
   subst hv
   have e1:=ni S9
   subst e1
   refine zL.pure hI ?_ RD.str
   have vb:(⟨s.toArray⟩:ByteArray).size=s.length:=rfl
   have hb:=uA (P:=c.P) (isS:=false) (len:=s.length) (cap:=s.length) (mx:=none) (m:=s.length) (Zt hl hlo)
    (bf (W2 hh' hhi) (λh=>⟨h.1,rfl,h.2⟩) id) (.inl ⟨rfl,rfl⟩) h0 h1 h2 (Nat.le_refl _) κ.w
   simp only[Instr.sliceAt,Sem.run_bind,run_underlying hu,Result.andThen_ok,Instr.slice,Option.isSome_none,Bool.false_eq_true,if_false,vb,hb,VB]
   rfl
  ·exact absurd h z7
 ·rename_i e s
  split at h
  ·rename_i et l hh het hl hh'
   have hu:=xZ het
   cases ht:vU c et e with
   | false=>rw[ht]at h; exact absurd h z7
   | true =>
    obtain⟨hs,_⟩:=xh ht
    rw[ht,cond_true]at h
    split at h
    ·rw[xW]at h
     obtain⟨⟨h0,h1,h2⟩,rfl,rfl⟩:=h
     have e1:=ni S9
     subst e1
     have ZL:=Zt hl hlo
     have ZN:(vh=none/\(none:Option Value)=none/\hh=(s.length:Int))\/∃ k,vh=some (.int k hh):=bf (W2 hh' hhi) (λh=>⟨h.1,rfl,h.2⟩) id
     rcases((hx _ rfl).xo rfl).dr with⟨rfl,a0,he⟩ | ⟨blk,off,cap,f,he,qI,qR,Hw,Ey⟩
     ·cases he
      simp only[List.length_nil,Int.cast_ofNat_Int]at h2
      have hb:=uA (P:=c.P) (isS:=true) (len:=0) (cap:=0) (mx:=none) (m:=0) ZL ZN (.inl ⟨rfl,rfl⟩) h0 h1 h2 (Nat.le_refl _) κ.w
      have e0:l=0:=by omega
      have e2:hh=0:=by omega
      subst e0 e2
      refine zL.pure hI (v:=.slice a0 0 0) ?_ (.cV rfl (.kR e a0))
      simp[Instr.sliceAt,run_underlying hu,Instr.slice,hb,run_sizeOf hs]
     ·cases he
      obtain⟨k1,k2,k3⟩:=UY (lo:=l) (hi:=hh) (cap:=cap) (m:=cap) qI Hw Ey h0 h1 h2 (by omega) (Nat.le_refl _)
      have hb:=uA (P:=c.P) (isS:=true) (len:=s.length) (cap:=cap) (mx:=none) (m:=cap) ZL ZN (.inl ⟨rfl,rfl⟩) h0 h1 (by omega) (Nat.le_refl _) κ.w
      have hlen:=(iG h0 h1 h2).1
      refine zL.pure hI ?_ (.cV rfl (.sl e (vw l hh s) blk _ (cap-l.toNat) _ qI k3 k1 k2))
      simp only[Instr.sliceAt,Sem.run_bind,run_underlying hu,Result.andThen_ok,Instr.slice,hb,run_sizeOf hs,Sem.run_pure,hlen]
      congr 3
      split<;>simp[addr_add]
    ·split at h
     ·rename_i mx m km mi PM
      cases hhs:hi.isSome with
      | false=>rw[hhs]at h; exact absurd h z7
      | true =>
      rw[hhs,cond_true,xW]at h
      obtain⟨⟨h0,h1,rfl,h2⟩,rfl,rfl⟩:=h
      obtain⟨vm,rfl⟩:∃ u,vm=some u:=by cases vm with | none=>exact S9.elim | some u=>exact⟨u,rfl⟩
      have hvm:=xz PM S9
      subst hvm
      have ZL:=Zt hl hlo
      have ZN:(vh=none/\(some (Value.int km hh):Option Value)=none/\hh=(s.length:Int))\/∃ k,vh=some (.int k hh):=by
       rcases Zm hh' hhi with⟨g1,_⟩ | ⟨_,g⟩
       ·rw[g1]at hhs; cases hhs
       ·exact .inr g
      have em:((hh.toNat:Nat):Int)=hh:=by omega
      rcases((hx _ rfl).xo rfl).dr with⟨rfl,a0,he⟩ | ⟨blk,off,cap,f,he,qI,qR,Hw,Ey⟩
      ·cases he
       simp only[List.length_nil,Int.cast_ofNat_Int]at h2
       have hb:=uA (P:=c.P) (isS:=true) (len:=0) (cap:=0) (mx:=some (.int km hh)) (m:=hh.toNat) ZL ZN (.inr ⟨km,by rw[em]⟩) h0 h1 (by omega) (by omega) κ.w
       have e0:l=0:=by omega
       have e2:hh=0:=by omega
       subst e0 e2
       refine zL.pure hI (v:=.slice a0 0 0) ?_ (.qm e a0)
       simp[Instr.sliceAt,run_underlying hu,Instr.slice,hb,run_sizeOf hs]
      ·cases he
       obtain⟨k1,k2,k3⟩:=UY (lo:=l) (hi:=hh) (cap:=cap) (m:=hh.toNat) qI Hw Ey h0 h1 h2 (by omega) (by omega)
       have hb:=uA (P:=c.P) (isS:=true) (len:=s.length) (cap:=cap) (mx:=some (.int km hh)) (m:=hh.toNat) ZL ZN (.inr ⟨km,by rw[em]⟩) h0 h1 (by omega) (by omega) κ.w
       have hlen:=(iG h0 h1 h2).1
       refine zL.pure hI ?_ (.tight e (vw l hh s) false blk _ _ nofun qI k1 k2)
       simp only[Instr.sliceAt,Sem.run_bind,run_underlying hu,Result.andThen_ok,Instr.slice,hb,run_sizeOf hs,Sem.run_pure,hlen]
       congr 3
       split<;>simp[addr_add]
     ·exact absurd h z7
  ·exact absurd h z7
 ·rename_i e s ne
  split at h
  ·rename_i et l hh het hl hh'
   have hu:=xZ het
   cases ht:vU c et e with
   | false=>rw[ht]at h; exact absurd h z7
   | true =>
    obtain⟨hs,_⟩:=xh ht
    rw[ht,cond_true,xW]at h
    obtain⟨⟨h0,h1,h2⟩,rfl,rfl⟩:=h
    have e1:=ni S9
    subst e1
    have ZL:=Zt hl hlo
    have ZN:(vh=none/\(none:Option Value)=none/\hh=(s.length:Int))\/∃ k,vh=some (.int k hh):=bf (W2 hh' hhi) (λh=>⟨h.1,rfl,h.2⟩) id
    cases hx _ rfl with
    | qm _ a0 =>
     simp only[List.length_nil,Int.cast_ofNat_Int]at h2
     have hb:=uA (P:=c.P) (isS:=true) (len:=0) (cap:=0) (mx:=none) (m:=0) ZL ZN (.inl ⟨rfl,rfl⟩) h0 h1 h2 (Nat.le_refl _) κ.w
     have e0:l=0:=by omega
     have e2:hh=0:=by omega
     subst e0 e2
     refine zL.pure hI (v:=.slice a0 0 0) ?_ (.cV rfl (.kR e a0))
     simp[Instr.sliceAt,run_underlying hu,Instr.slice,hb,run_sizeOf hs]
    | tight _ _ _ blk off f ui qI Hw Ey =>
     obtain⟨k1,k2,k3⟩:=UY (lo:=l) (hi:=hh) (cap:=s.length) (m:=s.length) qI Hw Ey h0 h1 h2 (by omega) (Nat.le_refl _)
     have hb:=uA (P:=c.P) (isS:=true) (len:=s.length) (cap:=s.length) (mx:=none) (m:=s.length) ZL ZN (.inl ⟨rfl,rfl⟩) h0 h1 (by omega) (Nat.le_refl _) κ.w
     have hlen:=(iG h0 h1 h2).1
     refine zL.pure hI ?_ (.cV rfl (.sl e (vw l hh s) blk _ (s.length-l.toNat) _ qI k3 k1 k2))
     simp only[Instr.sliceAt,Sem.run_bind,run_underlying hu,Result.andThen_ok,Instr.slice,hb,run_sizeOf hs,Sem.run_pure,hlen]
     congr 3
     split<;>simp[addr_add]
  ·exact absurd h z7
 ·rename_i b q7 e off len
  split at h
  ·rename_i et l hh het hl hh'
   have hu:=xZ het
   cases ht:vU c et e with
   | false=>rw[ht]at h; exact absurd h z7
   | true =>
    obtain⟨hs,_⟩:=xh ht
    rw[ht,cond_true,xW]at h
    obtain⟨⟨h0,h1,h2⟩,rfl,rfl⟩:=h
    have e1:=ni S9
    subst e1
    have ZL:=Zt hl hlo
    have ZN:(vh=none/\(none:Option Value)=none/\hh=(len:Int))\/∃ k,vh=some (.int k hh):=bf (W2 hh' hhi) (λh=>⟨h.1,rfl,h.2⟩) id
    cases hx _ rfl with
    | ms _ _ _ _ _ cap a hold qR ha mX hm =>
     have hb:=uA (P:=c.P) (isS:=true) (len:=len) (cap:=cap) (mx:=none) (m:=cap) ZL ZN (.inl ⟨rfl,rfl⟩) h0 h1 (by omega) (Nat.le_refl _) κ.w
     refine zL.pure hI (v:=.slice (if cap=l.toNat then a else a.map (·.add (l.toNat*e.size))) (hh.toNat-l.toNat) (cap-l.toNat)) ?_ (.ms b q7 e _ _ _ _ hold (by omega) ?_ ?_ ?_)
     ·simp only[Instr.sliceAt,Sem.run_bind,run_underlying hu,Result.andThen_ok,Instr.slice,hb,run_sizeOf hs,Sem.run_pure]
     ·intro hn
      split at hn
      ·have:=ha hn; omega
      ·cases a with | none=>have:=ha rfl; omega | some p=>cases hn
     ·intro p hp
      split at hp
      ·exact mX p hp
      ·cases a with
       | none=>cases hp
       | some q =>
        obtain⟨q1,q2,q3⟩:=q
        have:=mX _ rfl
        simp only at this
        subst this
        simp only[Option.map_some,addr_add,Option.some.injEq]at hp
        subst hp; rfl
     ·intro xs Zo
      obtain⟨hle,⟨rfl,rfl,hv,hp⟩ | ⟨b6,n',o',rH,h3,h4,h5,h6,h7⟩⟩:=hm xs Zo
      ·cases hv
       have e0:l=0:=by omega
       have e2:hh=0:=by omega
       subst e0 e2
       exact⟨by simp,.inl ⟨rfl,rfl,rfl,hp⟩⟩
      ·cases h4
       refine⟨by omega,.inr ?_⟩
       by_cases sd:cap=l.toNat
       ·refine⟨b6,n',o',0,h3,?_,by omega,?_,.inl rfl⟩
        ·simp[sd]
        ·have:(off+l.toNat+0)=off+cap:=by omega
         rw[this]; exact h6
       ·refine⟨b6,n',o'+l.toNat*e.size,cap-l.toNat,h3,?_,by omega,?_,.inr ?_⟩
        ·simp[sd,addr_add]
        ·have:off+l.toNat+(cap-l.toNat)=off+cap:=by omega
         rw[this]; exact h6
        ·rcases h7 with h7 | h7
         ·omega
         ·rw[h7,Nat.add_mul]
  ·exact absurd h z7
 ·exact absurd h z7
end
end Go.AM
namespace Go.AM
set_option linter.unusedSectionVars false
variable [we]
section
variable {c:Ctx} {κ:KS}
theorem fI(op:BinOp)(t:Nat)(x y:Operand)(k k':IntKind)(a b:Int)(P:Program)(w:World):(eqGuard op t x y (.int k a) (.int k' b)).run P w=.ok () w:=by
 unfold eqGuard; split<;>simp
theorem UI(op:BinOp)(t:Nat)(x y:Operand)(a b:ByteArray)(P:Program)(w:World):(eqGuard op t x y (.string a) (.string b)).run P w=.ok () w:=by
 unfold eqGuard; split<;>simp
theorem XU(op:BinOp)(t:Nat)(x y:Operand)(a b:Bool)(P:Program)(w:World):(eqGuard op t x y (.bool a) (.bool b)).run P w=.ok () w:=by
 unfold eqGuard; split<;>simp
theorem cW{k:IntKind}{n:Int}{st zg:St}{d:Option D}:(zk (ib k n) st).leads (d,zg)↔d=some (.zj (.int k) n)/\zg=st:=uB
theorem ik{b:Bool}{st zg:St}{d:Option D}:(zk (bb b) st).leads (d,zg)↔d=some (.zj .bool b)/\zg=st:=uB
theorem KB{op:BinOp}{k:IntKind}{a b:Int}{d:Option D}{st zg:St}{t:Nat}(h:(zk (J3 op k a b) st).leads (d,zg))(hs:rZ op=false) :
  ∃ y v,d=some y/\zg=st/\(binOp op t (.int k a) (.int k b)).run c.P κ.w=.ok v κ.w/\RD κ y v:=by
 cases op<;>simp only[J3]at h<;>try (exact absurd h z7)
 all_goals first
  | (rw[cW]at h; obtain⟨rfl,rfl⟩:=h; exact⟨_,_,rfl,rfl,by simp[binOp,Op.intArith,Op.intBits,eS],RD.int⟩)
  | (rw[ik]at h; obtain⟨rfl,rfl⟩:=h; exact⟨_,_,rfl,rfl,by simp[binOp,Op.intCmp],RD.bool⟩)
  | (rw[xW]at h; obtain⟨hb,rfl,rfl⟩:=h; exact⟨_,_,rfl,rfl,by simp[binOp,Op.intDiv,hb],RD.int⟩)
theorem Zv(s:zh):(⟨s.toArray⟩:ByteArray).toList=s:=by simp
theorem Jc{op:BinOp}{a b:zh}{d:Option D}{st zg:St}{t:Nat}(h:(zk (Ja op a b) st).leads (d,zg))(hs:rZ op=false) :
  ∃ y v,d=some y/\zg=st/\(binOp op t (.string ⟨a.toArray⟩) (.string ⟨b.toArray⟩)).run c.P κ.w=.ok v κ.w/\RD κ y v:=by
 have vb:∀ s:zh,(⟨s.toArray⟩:ByteArray).size=s.length:=λ_=>rfl
 cases op<;>simp only[Ja]at h<;>try (exact absurd h z7)
 case add =>
  rw[xW]at h; obtain⟨hb,rfl,rfl⟩:=h
  refine⟨_,_,rfl,rfl,?_,RD.str⟩
  have e:(⟨a.toArray⟩++⟨b.toArray⟩:ByteArray)=⟨(cat a b).toArray⟩:=by
   rfl
  have hn:¬ (IntKind.i64.max<((a.length+b.length:Nat):Int)):=by
   have:IntKind.i64.max=9223372036854775807:=by decide
   omega
  simp only[binOp,Op.stringOp,vb,hn]
  rfl
 all_goals (rw[ik]at h; obtain⟨rfl,rfl⟩:=h; exact⟨_,_,rfl,rfl,by simp[binOp,Op.stringOp,qb,strLt],RD.bool⟩)
theorem Jk{P:Program}{t:Nat}(hu:P.underlying t=some .bool)(a b:Bool)(w:World):(Op.equal t (.bool a) (.bool b)).run P w=.ok (a==b) w:=by
 show(Op.equalIn (9999+1) t _ _).run P w=_
 rw[Op.equalIn]
 simp[run_underlying hu]
theorem Jo{a:Ty}{t:Nat}(h:L2 c a t=true):(∃ k,a=.int k/\c.P.underlying t=some (.int k))\/(a=.bool/\c.P.underlying t=some .bool)\/(a=.str/\c.P.underlying t=some .string):=by
 unfold L2 at h
 grind
theorem Kb{P:Program}{t:Nat}{u:TypeDesc}(h:P.underlying t=some u)(hn:(match u with | .struct _ | .array _ _=>true | _=>false)=false)(w:World):(isAgg t).run P w=.ok false w:=by
 simp only[isAgg,Sem.run_bind,run_underlying h]
 cases u<;>first | rfl | cases hn
theorem yd{P:Program}{t:Nat}{u:TypeDesc}(h:P.underlying t=some u)(hn:(match u with | .struct _ | .array _ _=>true | _=>false)=false)(pre:List Value)(v:Value)(cs:List Value)(w:World) :
  (part t (pre++v::cs).toArray pre.length).run P w=.ok v w:=by
 simp only[part,Sem.run_bind,Kb h hn]
 simp
theorem nK{w:World}{ok:Nat->Prop}(dp:Nat):∀ (τ:Ty) (a b:den τ) (off:Nat) (fs:List Field) (pre tD cs ye:List Value),nu c τ off fs=true->Rc w ok τ a cs->Rc w ok τ b ye->pre.length=off->tD.length=off ->
  (Op.eqFields (dp+1) (pre++cs).toArray (tD++ye).toArray fs).run c.P w=.ok (FZ τ a b) w
 | .nil,_,_,_,fs,pre,tD,cs,ye,h,_,_,_,_=>by
  cases fs with
  | nil=>rfl
  | cons f fs=>cases h
 | .cons a r,x,y,off,fs,pre,tD,cs,ye,h,hx,hy,hp,hp'=>by
  cases fs with
  | nil=>cases h
  | cons f fs =>
   have h:(decide (f.name ≠ "_")&&(Nat.beq f.offset off&&(L2 c a f.type&&nu c r (off+1) fs)))=true:=h
   simp only[Bool.and_eq_true,decide_eq_true_eq]at h
   obtain⟨h1,h2,h3,h4⟩:=h
   have h2:=Nat.eq_of_beq_eq_true h2
   obtain⟨c1,c2,rfl,g1,g2⟩:=hx.cons_inv
   obtain⟨e1,e2,rfl,k1,k2⟩:=hy.cons_inv
   have ih:=λv v'=>nK dp r x.2 y.2 (off+1) fs (pre++[v]) (tD++[v']) c2 e2 h4 g2 k2 (by simp[hp]) (by simp[hp'])
   have fin:∀ (v v':Value) (q:Bool),c1=[v]->e1=[v']->(part f.type (pre++v::c2).toArray f.offset).run c.P w=.ok v w->(part f.type (tD++v'::e2).toArray f.offset).run c.P w=.ok v' w->(Op.equalIn (dp+1) f.type v v').run c.P w=.ok q w->FZ a x.1 y.1=q ->
     (Op.eqFields (dp+1) (pre++(c1++c2)).toArray (tD++(e1++e2)).toArray (f::fs)).run c.P w=.ok (FZ (.cons a r) x y) w:=by
    rintro v v' q rfl rfl p1 p2 p3 p4
    show(Op.eqFields (dp+1) (pre++v::c2).toArray (tD++v'::e2).toArray (f::fs)).run c.P w=.ok (FZ a x.1 y.1&&FZ r x.2 y.2) w
    rw[Op.eqFields,if_pos h1]
    simp only[Sem.run_bind,p1,p2,p3,Result.andThen_ok]
    rw[p4]
    cases q with
    | false=>rfl
    | true =>
     grind
   subst hp
   rcases Jo h3 with⟨k,rfl,hu⟩ | ⟨rfl,hu⟩ | ⟨rfl,hu⟩
   ·exact fin _ _ _ g1.jB k1.jB (by rw[h2]; exact yd hu rfl pre _ c2 w) (by rw[h2,<- hp']; exact yd hu rfl tD _ e2 w) (run_equalIn_int w dp _ k k _ _ hu) rfl
   ·exact fin _ _ _ g1.um k1.um (by rw[h2]; exact yd hu rfl pre _ c2 w) (by rw[h2,<- hp']; exact yd hu rfl tD _ e2 w) (run_equalIn_bool' w dp _ _ _ hu) rfl
   ·refine fin _ _ _ g1.qO k1.qO (by rw[h2]; exact yd hu rfl pre _ c2 w) (by rw[h2,<- hp']; exact yd hu rfl tD _ e2 w) (run_equalIn_string w dp _ _ _ hu) ?_
    rw[Zv,Zv]
    rfl
 | .int _,_,_,_,_,_,_,_,_,h,_,_,_,_=>by simp[nu]at h
 | .bool,_,_,_,_,_,_,_,_,h,_,_,_,_=>by simp[nu]at h
 | .str,_,_,_,_,_,_,_,_,h,_,_,_,_=>by simp[nu]at h
 | .sl _,_,_,_,_,_,_,_,_,h,_,_,_,_=>by simp[nu]at h
 | .expr,_,_,_,_,_,_,_,_,h,_,_,_,_=>by simp[nu]at h
theorem Kr{op:BinOp}{t:Nat}{px py:Operand}{x y:Option D}{v u:Value}{d:Option D}{zg:St}(hI:Inv κ)(hx:∀ z,x=some z->RD κ z v)(hy:∀ z,y=some z->RD κ z u)
  (h:(zk (Fz c op t x y) κ.st).leads (d,zg)):zL c.P (do Pure.pure (.value (<- (do eqGuard op t px py v u; binOp op t v u)))) κ d zg:=by
 unfold Fz at h
 split at h
 ·rename_i τ a σ b
  split at h
  ·rename_i b' hb
   unfold xu at hb
   split at hb
   ·rename_i e
    subst e
    injection hb with hb
    subst hb
    cases hg:σ.isAgg&&Zs c σ t with
    | false=>rw[hg]at h; exact absurd h z7
    | true =>
     rw[hg,cond_true]at h
     rw[Bool.and_eq_true]at hg
     obtain⟨DQ,hso⟩:=hg
     unfold Zs at hso
     split at hso
     ·rename_i fs hu
      simp at hso
      obtain⟨f1,f2,f3⟩:=hso
      have hfo:c.P.fieldsOf t=fs:=by unfold Program.fieldsOf; rw[hu]
      cases hx _ rfl with
      | zj _ _ cs g1 =>
      cases hy _ rfl with
      | zj _ _ ye g2 =>
       have e1:pk σ cs=.agg cs.toArray:=by unfold pk; rw[if_pos DQ]
       have e2:pk σ ye=.agg ye.toArray:=by unfold pk; rw[if_pos DQ]
       have hr:=nK (c:=c) 9998 σ a b 0 fs.toList [] [] cs ye f1 g1 g2 rfl rfl
       have hq:(Op.equalIn 10000 t (.agg cs.toArray) (.agg ye.toArray)).run c.P κ.w=.ok (FZ σ a b) κ.w:=by
        rw[show(10000:Nat)=9999+1 from rfl,run_equalIn_agg κ.w 9999 t _ _ (by grind) f2,hfo]
        exact hr
       rw[e1,e2]
       cases op<;>try (exact absurd h z7)
       ·rw[ik]at h; obtain⟨rfl,rfl⟩:=h
        refine zL.pure hI ?_ RD.bool
        simp only[Sem.run_bind,run_eqGuard_agg κ.w _ t px py _ _ f3,Result.andThen_ok,run_eql_struct,hq]
       ·rw[ik]at h; obtain⟨rfl,rfl⟩:=h
        refine zL.pure hI ?_ RD.bool
        simp only[Sem.run_bind,run_eqGuard_agg κ.w _ t px py _ _ f3,Result.andThen_ok,run_neq_struct,hq]
     ·cases hso
   ·cases hb
  ·exact absurd h z7
 ·exact absurd h z7
theorem tC{op:BinOp}{t:Nat}{px py:Operand}{x y:Option D}{v u:Value}{d:Option D}{zg:St}(hI:Inv κ)(hx:∀ z,x=some z->RD κ z v)(hy:∀ z,y=some z->RD κ z u)
  (h:(zk (tE c op t x y) κ.st).leads (d,zg)):zL c.P (do Pure.pure (.value (<- (do eqGuard op t px py v u; binOp op t v u)))) κ d zg:=by
 unfold tE at h
 split at h
 ·rename_i k a k' b hk WK
  have:=xz hk hx
  subst this
  have:=xz WK hy
  subst this
  split at h
  ·rw[xW]at h
   obtain⟨hb,rfl,rfl⟩:=h
   refine zL.pure hI ?_ RD.int
   simp only[Sem.run_bind,fI,Result.andThen_ok,binOp,Op.shift,if_neg (show ¬ b<0 by omega)]
   rfl
  ·rw[xW]at h
   obtain⟨hb,rfl,rfl⟩:=h
   refine zL.pure hI ?_ RD.int
   simp only[Sem.run_bind,fI,Result.andThen_ok,binOp,Op.shift,if_neg (show ¬ b<0 by omega)]
   rfl
  ·rename_i n1 n2
   cases he:decide (k=k')with
   | false=>rw[he]at h; exact absurd h z7
   | true =>
    have JJ:=of_decide_eq_true he
    subst JJ
    rw[he,cond_true]at h
    obtain⟨y',v',rfl,rfl,h1,h2⟩:=KB (c:=c) (κ:=κ) (t:=t) h (by cases op<;>first | rfl | (exact absurd rfl n1) | (exact absurd rfl n2))
    exact zL.pure hI (by simp only[Sem.run_bind,fI,Result.andThen_ok,h1]) h2
 ·split at h
  ·rename_i a b ha hb
   have:=fA ha hx
   subst this
   have:=fA hb hy
   subst this
   cases hs:rZ op with
   | true=>rw[hs]at h; exact absurd h z7
   | false =>
    rw[hs,cond_false]at h
    obtain⟨y',v',rfl,rfl,h1,h2⟩:=Jc (c:=c) (κ:=κ) (t:=t) h hs
    exact zL.pure hI (by simp only[Sem.run_bind,UI,Result.andThen_ok,h1]) h2
  ·split at h
   ·rename_i a b hu ha hb
    have:=cN ha hx
    subst this
    have:=cN hb hy
    subst this
    cases op<;>simp only[Ee]at h<;>try (exact absurd h z7)
    all_goals
     rw[ik]at h; obtain⟨rfl,rfl⟩:=h
     refine zL.pure hI ?_ RD.bool
     simp only[Sem.run_bind,XU,Result.andThen_ok,binOp,Jk hu,Sem.run_pure]
   ·exact Kr hI hx hy h
theorem LD{op:UnOp}{x:Option D}{v:Value}{d:Option D}{zg:St}(hI:Inv κ)(hx:∀ z,x=some z->RD κ z v)
  (h:(zk (Dc op x) κ.st).leads (d,zg)):zL c.P (do Pure.pure (.value (<- Op.unary op v))) κ d zg:=by
 unfold Dc at h
 split at h
 ·split at h
  ·rename_i k n hk
   have:=xz hk hx
   subst this
   obtain⟨rfl,rfl⟩:=h
   exact zL.pure hI (by rfl) RD.int
  ·exact absurd h z7
 ·split at h
  ·rename_i b hb
   have:=cN hb hx
   subst this
   obtain⟨rfl,rfl⟩:=h
   exact zL.pure hI (by rfl) RD.bool
  ·exact absurd h z7
 ·split at h
  ·rename_i k n hk
   have:=xz hk hx
   subst this
   obtain⟨rfl,rfl⟩:=h
   exact zL.pure hI (by rfl) RD.int
  ·exact absurd h z7
 ·exact absurd h z7
theorem LI{t ty:Nat}{ts:Array Nat}{x:Option D}{v:Value}{vs:Array Value}{d:Option D}{zg:St}(hI:Inv κ)(hx:∀ z,x=some z->RD κ z v)(ht:ts[0]? = some t)(hv:vs[0]? = some v)
  (h:(zk (CF c t x) κ.st).leads (d,zg)):zL c.P (do Pure.pure (.value (<- Builtin.len_ ts ty vs))) κ d zg:=by
 unfold CF at h
 split at h
 ·rename_i e hu
  have key:∀ (n:Nat) (a:Option Addr) (cap:Nat),v=.slice a n cap->d=some (.zj (.int .i64) (n:Int))->zg=κ.st->zL c.P (do Pure.pure (.value (<- Builtin.len_ ts ty vs))) κ d zg:=by
   rintro n a cap rfl rfl rfl
   exact zL.pure hI (by simp[Builtin.len_,ht,hv,run_underlying hu,goInt]) RD.int
  split at h
  ·rename_i e' l
   rw[cW]at h
   rcases((hx _ rfl).xo rfl).dr with⟨rfl,a0,he⟩ | ⟨blk,off,cap,f,he,_⟩
   ·grind
   ·grind
  ·rename_i e' l ne
   rw[cW]at h
   cases hx _ rfl with
   | qm _ a0=>grind
   | tight=>grind
  ·rw[cW]at h
   cases hx _ rfl
   grind
  ·rw[cW]at h
   cases hx _ rfl
   grind
  ·exact absurd h z7
 ·rename_i hu
  split at h
  ·rename_i s hs
   have:=fA hs hx
   subst this
   obtain⟨rfl,rfl⟩:=h
   have vb:(⟨s.toArray⟩:ByteArray).size=s.length:=rfl
   exact zL.pure hI (by simp only[Builtin.len_,ht,hv,Sem.run_bind,run_underlying hu,Result.andThen_ok,goInt,vb,Sem.run_pure]) RD.int
  ·exact absurd h z7
 ·exact absurd h z7
theorem Je{f:Int->Int->Int}{g:Value->Value->Sem Value}{P:Program}(hg:∀ k k' a b,(g (.int k a) (.int k' b)).run P κ.w=.ok (.int k (f a b)) κ.w){x y:Option D}{v u:Value}{d:Option D}{zg:St}
  (hI:Inv κ) (hx:∀ z,x=some z->RD κ z v) (hy:∀ z,y=some z->RD κ z u) (h:(zk (Ze f [x,y]) κ.st).leads (d,zg)) :
  ∃ r,(g v u).run P κ.w=.ok r κ.w/\zg=κ.st/\∀ d',d=some d'->RD κ d' r:=by
 unfold Ze at h
 simp only at h
 split at h
 ·rename_i k a k' b hk WK
  have:=xz hk hx
  subst this
  have:=xz WK hy
  subst this
  cases he:decide (k=k')with
  | false=>rw[he]at h; exact absurd h z7
  | true =>
   rw[he,cond_true,cW]at h
   obtain⟨rfl,rfl⟩:=h
   exact⟨_,hg k k' a b,rfl,λd' he=>by cases he; exact RD.int⟩
 ·exact absurd h z7
theorem XV{x:Option D}{i:Nat}{v:Value}{d:Option D}{zg:St}(hI:Inv κ)(hx:∀ z,x=some z->RD κ z v)
  (h:(zk (ov x i) κ.st).leads (d,zg)):zL c.P (do Pure.pure (.value (<- Instr.extract v i))) κ d zg:=by
 unfold ov at h
 split at h
 ·rename_i vs
  obtain⟨y,hy,rfl,rfl⟩:=tO h
  cases hx _ rfl with
  | jC _ us hl hh =>
   obtain⟨u,h1,h2⟩:=zU.get (⟨hl,hh⟩:zU κ vs us) hy
   exact zL.pure hI (by simp[Instr.extract,h1]) h2
 ·exact absurd h z7
theorem gm:∀ {l:List (Option D)} {ds:List D},wD l=some ds->l=ds.map some
 | [],ds,h=>by simp[wD]at h; subst h; rfl
 | some d::r,ds,h=>by
  simp only[wD]at h
  split at h
  ·rename_i l hl; cases h; simp[gm hl]
  ·cases h
 | none::r,ds,h=>by simp[wD]at h
theorem jU{l:List (Option D)}{ds:List D}{vs:List Value}(h:wD l=some ds)(hl:l.length=vs.length)
  (hr:∀ (i:Nat) (d:D) (v:Value),l[i]? = some (some d)->vs[i]? = some v->RD κ d v):zU κ ds vs:=by
 have:=gm h
 subst this
 refine⟨by grind,λi h1 h2=>hr i _ _ ?_ (List.getElem?_eq_getElem h2)⟩
 simp
end
end Go.AM
namespace Go.AM
namespace T
variable {α β γ:Type}
theorem kX{t:T α}{x y:α}(h:t.leads x)(k:t.leads y):x=y:=by
 induction t with
 | ret a=>exact h.symm.trans k
 | ite b p q ip iq =>
  rcases h with⟨h1,h⟩ | ⟨h1,h⟩<;>rcases k with⟨k1,k⟩ | ⟨k1,k⟩
  ·grind
  ·grind
  ·grind
  ·grind
 | zb p t ih=>exact ih h.2 k.2
 | fail=>exact h.elim
theorem z6{t:T α}{f:α->T β}{x:β}:(t.bind f).leads x↔∃ a,t.leads a/\(f a).leads x:=by
 induction t with
 | ret a=>exact⟨λh=>⟨a,rfl,h⟩,λ⟨b,h,k⟩=>by cases h; exact k⟩
 | ite b p q ip iq =>
  constructor
  ·rintro(⟨h1,h⟩ | ⟨h1,h⟩)
   ·obtain⟨a,k1,k2⟩:=ip.1 h; exact⟨a,.inl ⟨h1,k1⟩,k2⟩
   ·obtain⟨a,k1,k2⟩:=iq.1 h; exact⟨a,.inr ⟨h1,k1⟩,k2⟩
  ·rintro⟨a,⟨h1,k1⟩ | ⟨h1,k1⟩,k2⟩
   ·exact .inl ⟨h1,ip.2 ⟨a,k1,k2⟩⟩
   ·exact .inr ⟨h1,iq.2 ⟨a,k1,k2⟩⟩
 | zb p t ih =>
  constructor
  ·rintro⟨h1,h⟩; obtain⟨a,k1,k2⟩:=ih.1 h; exact⟨a,⟨h1,k1⟩,k2⟩
  ·rintro⟨a,⟨h1,k1⟩,k2⟩; exact⟨h1,ih.2 ⟨a,k1,k2⟩⟩
 | fail=>exact⟨λh=>h.elim,λ⟨_,h,_⟩=>h.elim⟩
open Classical in
noncomputable def run:T α->Option α
 | ret a=>some a
 | ite b t e=>bif b then t.run else e.run
 | zb p t=>if p then t.run else none
 | fail=>none
@[simp] theorem jz(a:α):(ret a).run=some a:=rfl
@[simp] theorem z3a:(fail:T α).run=none:=rfl
theorem run_ite(b:Bool)(t e:T α):(ite b t e).run=if b=true then t.run else e.run:=by cases b<;>rfl
@[simp] theorem LH(t e:T α):(ite true t e).run=t.run:=rfl
@[simp] theorem I5(t e:T α):(ite false t e).run=e.run:=rfl
theorem qk{p:Prop}(h:p)(t:T α):(zb p t).run=t.run:=by simp only[run,if_pos h]
theorem nY{b:Bool}(h:b=true)(t e:T α):(ite b t e).run=t.run:=by rw[h]; rfl
theorem oy{b:Bool}(h:b=false)(t e:T α):(ite b t e).run=e.run:=by rw[h]; rfl
theorem jV{t:T α}{x:α}:t.run=some x↔t.leads x:=by
 induction t with
 | ret a=>simp[leads]
 | ite b p q ip iq=>cases b<;>simp[leads,ip,iq]
 | zb p t ih=>by_cases h:p<;>simp[run,leads,ih]
 | fail=>simp[leads]
theorem run_bind(t:T α)(f:α->T β):(t.bind f).run=t.run.bind λa=>(f a).run:=by
 induction t with
 | ret a=>rfl
 | ite b p q ip iq=>cases b<;>simp[bind,ip,iq]
 | zb p t ih=>by_cases h:p<;>simp[run,bind,h,ih]
 | fail=>rfl
theorem fy{t:T α}{a:α}(h:t.run=some a)(f:α->T β):(t.bind f).run=(f a).run:=by rw[run_bind,h]; rfl
section loop
variable {σ ρ:Type} (r:σ->T (σ⊕ρ))
inductive Iter:Nat->σ->ρ->Prop
 | done {s:σ} {x:ρ} (h:(r s).leads (.inr x)):Iter 0 s x
 | step {n:Nat} {s s':σ} {x:ρ} (h:(r s).leads (.inl s')) (k:Iter n s' x):Iter (n+1) s x
theorem Iter.det{r:σ->T (σ⊕ρ)}{n m:Nat}{s:σ}{x y:ρ}(h:Iter r n s x)(k:Iter r m s y):x=y:=by
 induction h generalizing m y with
 | done h =>
  cases k with
  | done k=>have:=kX h k; cases this; rfl
  | step k _=>have:=kX h k; cases this
 | step h _ ih =>
  cases k with
  | done k=>have:=kX h k; cases this
  | step k k2=>have:=kX h k; cases this; exact ih k2
open Classical in
noncomputable def loop (s:σ):T ρ:=if h:∃ x n,Iter r n s x then .ret h.choose else .fail
theorem dI{s:σ}{x:ρ}:(loop r s).leads x↔∃ n,Iter r n s x:=by
 unfold loop
 split
 ·rename_i h
  obtain⟨n,hn⟩:=h.choose_spec
  constructor
  ·intro hx; cases hx; exact⟨n,hn⟩
  ·rintro⟨m,hm⟩; exact hn.det hm
 ·rename_i h
  exact⟨λk=>k.elim,λ⟨n,hn⟩=>h ⟨x,n,hn⟩⟩
theorem QA{r:σ->T (σ⊕ρ)}{s s':σ}(h:(r s).run=some (.inl s')):(loop r s).run=(loop r s').run:=by
 have h':=jV.1 h
 apply Option.ext
 intro x
 show(loop r s).run=some x↔(loop r s').run=some x
 rw[jV,jV,dI,dI]
 constructor
 ·rintro⟨n,hn⟩
  cases hn with
  | done k=>have:=kX h' k; cases this
  | step k k2=>have:=kX h' k; cases this; exact⟨_,k2⟩
 ·rintro⟨n,hn⟩; exact⟨n+1,.step h' hn⟩
theorem oe{r:σ->T (σ⊕ρ)}{s:σ}{x:ρ}(h:(r s).run=some (.inr x)):(loop r s).run=some x:=by
 rw[jV,dI]; exact⟨0,.done (jV.1 h)⟩
end loop
section fix
variable {σ ρ:Type} (b:(σ->T ρ)->σ->T ρ)
def Wi:Nat->σ->T ρ
 | 0,_=>.fail
 | n+1,x=>b (Wi n) x
open Classical in
noncomputable def fix (x:σ):T ρ:=if h:∃ y n,∀ m,n<=m->(Wi b m x).leads y then .ret h.choose else .fail
theorem l5{x:σ}{y:ρ}:(fix b x).leads y↔∃ n,∀ m,n<=m->(Wi b m x).leads y:=by
 unfold fix
 split
 ·rename_i h
  obtain⟨n,hn⟩:=h.choose_spec
  constructor
  ·intro hx; cases hx; exact⟨n,hn⟩
  ·rintro⟨k,hk⟩; exact kX (hn (max n k) (by omega)) (hk (max n k) (by omega))
 ·rename_i h
  exact⟨λk=>k.elim,λ⟨n,hn⟩=>h ⟨y,n,hn⟩⟩
end fix
def nE:T α->Option Prop
 | ret _=>none
 | ite b t e=>match t.nE,e.nE with
  | none,none=>none
  | some p,none=>some (b=true->p)
  | none,some q=>some (b=false->q)
  | some p,some q=>some ((b=true->p)/\(b=false->q))
 | zb p t=>match t.nE with
  | none=>some p
  | some q=>some (p/\q)
 | fail=>some False
def val(d:α):T α->α
 | ret a=>a
 | ite b t e=>bif b then t.val d else e.val d
 | zb _ t=>t.val d
 | fail=>d
def flat(d:α)(t:T α):T α:=match t.nE with
 | none=>.ret (t.val d)
 | some p=>.zb p (.ret (t.val d))
def rC(t:T α):Prop:=match t.nE with | none=>True | some p=>p
theorem tL(d:α)(t:T α)(x:α):t.leads x↔t.rC/\t.val d=x:=by
 induction t with
 | ret a=>simp[leads,rC,nE,val]
 | ite b p q ip iq =>
  cases b
  ·simp only[leads,val,iq]
   unfold rC
   simp only[nE]
   grind
  ·simp only[leads,val,ip]
   unfold rC
   simp only[nE]
   grind
 | zb p t ih =>
  simp only[leads,ih,val]
  unfold rC
  simp only[nE]
  grind
 | fail=>simp[leads,rC,nE]
end T
abbrev zD(x:Int):Int:=IntKind.wrap .i64 x
abbrev qa(x:Int):Int:=IntKind.wrap .u64 x
abbrev kl(x:Int):Int:=IntKind.wrap .u32 x
abbrev wu8(x:Int):Int:=IntKind.wrap .u8 x
def zn(q7 off len n:Nat):Prop:=q7=n/\off=0/\len=n
def zT(i:Int)(n:Nat):Prop:=0<=i/\i<(n:Int)
def va(q7 uF idx n:Nat):Prop:=q7=uF/\idx<n
def wg(q7 uF off len n m bytes:Nat):Prop:=q7=uF/\off=0/\len=n/\(n+m)*bytes<=140737488355328
def vG(l h:Int)(n:Nat):Prop:=0<=l/\l<=h/\h<=(n:Int)
def TY(l h m:Int)(n:Nat):Prop:=0<=l/\l<=h/\h=m/\h<=(n:Int)
def Bf(l:zh):Nat->zh
 | 0=>[]
 | c+1=>l++Bf l c
def D2(u:Nat):zh:=if h:u<10 then[UInt8.ofNat (48+u)]else D2 (u / 10)++[UInt8.ofNat (48+u % 10)]
termination_by u
decreasing_by omega
def Vr(n:Int):zh:=if n<0 then 45::D2 n.natAbs else D2 n.toNat
def Zf:zh->zh->Int
 | [],sub=>if sub.isEmpty then 0 else -1
 | b::l,sub=>if sub.isPrefixOf (b::l)then 0 else if Zf l sub == -1 then -1 else Zf l sub+1
def Kg:zh->UInt8->Int
 | [],_ => -1
 | b::l,c=>if b==c then 0 else if Kg l c == -1 then -1 else Kg l c+1
def YB(s sep:zh):zh×zh×Bool:=if 0<=Zf s sep then(s.take (Zf s sep).toNat,s.drop ((Zf s sep).toNat+sep.length),true)else(s,[],false)
def Mj(s p:zh):zh:=if List.isPrefixOf p s=true then s.drop p.length else s
def XD(s:zh):den (bG .bool 256):=IZ (e:=.bool) (λj=>s.contains (UInt8.ofNat j)) 256 0
def Uw(v v' o l n:Nat):Prop:=v=v'/\o+l<=n
def z3J(a b:Nat):Nat:=min a b
def ob(n m:Int)(bytes:Nat):Prop:=0<=n/\n<=m/\m*bytes<=140737488355328/\m<=140737488355328
def nth{α:Type}(l:List α)(i:Int)(d:α):α:=List.getD l i.toNat d
def xK{α:Type}(l:List α)(i:Nat)(d:α):α:=List.getD l i d
def wk(s:zh)(i:Int):Int:=((List.getD s i.toNat 0).toNat:Int)
def KC(k:IntKind)(x y:Int):Int:=eS k (· &&& ·) x y
def Ii(k:IntKind)(x y:Int):Int:=eS k (· ||| ·) x y
def PF(k:IntKind)(x y:Int):Int:=eS k (· ^^^ ·) x y
def Rr(l:List Int):T (zh×Unit):=.zb ((∀ n∈l,(0:Int)<=n/\n<256)/\List.length l<=140737488355328) (.ret (wz l,()))
end Go.AM
namespace Go.AM
def Pk(b:UInt8):List zh->List zh
 | []=>[[b]]
 | x::y=>(b::x)::y
def tT(c:UInt8):zh->List zh
 | []=>[[]]
 | b::r=>if b=c then[]::tT c r else Pk b (tT c r)
def dP(c:UInt8):zh->zh->List zh
 | cur,[]=>if cur=[]then[]else[cur]
 | cur,b::r=>if b=c then(if cur=[]then dP c [] r else cur::dP c [] r)else dP c (cur++[b]) r
def mq:zh->zh->Int
 | [],_ => -1
 | b::l,chars=>if chars.contains b then 0 else if mq l chars == -1 then -1 else mq l chars+1
abbrev oI{A R:Type}(i:Int)(l:List A)(t:T R):T R:=.zb (zT i l.length) t
abbrev oE{A R:Type}(l:List A)(t:T R):T R:=.zb (l.length=l.length) t
abbrev oC{A R:Type}(l:List A)(t:T R):T R:=.zb (zn l.length 0 l.length l.length) t
abbrev oM{R:Type}(a b:Nat)(t:T R):T R:=.zb (zn a 0 a b) (.zb (a=b) t)
abbrev oA{A R:Type}(l:List A)(k:Nat)(t:T R):T R:=.zb (wg l.length l.length 0 l.length l.length 1 k) t
abbrev oK{R:Type}(a b:zh)(t:T R):T R:=.zb (a.length+b.length<=4611686018427387904) t
abbrev oZ{R:Type}(t:T R):T R:=.zb (zn 0 0 0 0) (.zb ((0:Nat)=0) t)
abbrev oV{A B C D E F R:Type}(a:List A)(b:List B)(c:List C)(d:List D)(e:List E)(f:List F)(t:T R):T R:=oC a (oC b (oC c (oC d (oC e (oC f t)))))
abbrev oW{A B C D E F R:Type}(a:List A)(b:List B)(c:List C)(d:List D)(e:List E)(f:List F)(t:T R):T R:=oE a (oE b (oE c (oE d (oE e (oE f t)))))
abbrev oY{A B C D E F R:Type}(a:List A)(b:List B)(c:List C)(d:List D)(e:List E)(f:List F)(t:T R):T R:=oV a b c d e f (oW a b c d e f t)
end Go.AM
namespace Go.AM
namespace T
variable {α β:Type}
attribute [simp] run_bind
@[simp] theorem z0j(b:Bool)(t e:T α):(ite b t e).run=if b=true then t.run else e.run:=run_ite b t e
@[simp] theorem z5f{i:Int}{n:Nat}(t:T α)(h1:0<=i)(h2:i<(n:Int)):(zb (zT i n) t).run=t.run:=qk ⟨h1,h2⟩ t
@[simp] theorem z8N{v v' i n:Nat}(t:T α)(h1:v=v')(h2:i<n):(zb (va v v' i n) t).run=t.run:=qk ⟨h1,h2⟩ t
@[simp] theorem z4Q{v v' o l n m b:Nat}(t:T α)(h1:v=v')(h2:o=0)(h3:l=n)(h4:(n+m)*b<=140737488355328):(zb (wg v v' o l n m b) t).run=t.run:=qk ⟨h1,h2,h3,h4⟩ t
@[simp] theorem z55{v o l n:Nat}(t:T α)(h1:v=n)(h2:o=0)(h3:l=n):(zb (zn v o l n) t).run=t.run:=qk ⟨h1,h2,h3⟩ t
@[simp] theorem z65{l h:Int}{n:Nat}(t:T α)(h1:0<=l)(h2:l<=h)(h3:h<=(n:Int)):(zb (vG l h n) t).run=t.run:=qk ⟨h1,h2,h3⟩ t
@[simp] theorem run_mk{n m:Int}{b:Nat}(t:T α)(h1:0<=n)(h2:n<=m)(h3:m*b<=140737488355328)(h4:m<=140737488355328):(zb (ob n m b) t).run=t.run:=qk ⟨h1,h2,h3,h4⟩ t
@[simp] theorem z57{v v' o l n:Nat}(t:T α)(h1:v=v')(h2:o+l<=n):(zb (Uw v v' o l n) t).run=t.run:=qk ⟨h1,h2⟩ t
@[simp] theorem z4E{a b:Nat}(t:T α)(h:a=b):(zb (a=b) t).run=t.run:=qk h t
@[simp] theorem z5g{a b:Nat}(t:T α)(h:a<=b):(zb (a<=b) t).run=t.run:=qk h t
@[simp] theorem z5h{a b:Int}(t:T α)(h:a<=b):(zb (a<=b) t).run=t.run:=qk h t
@[simp] theorem z4N{a b:Int}(t:T α)(h:a≠b):(zb (a≠b) t).run=t.run:=qk h t
@[simp] theorem z6L{A:Type}{i:Int}{l:List A}(t:T α)(h1:0<=i)(h2:i<(l.length:Int)):(oI i l t).run=t.run:=qk ⟨h1,h2⟩ t
@[simp] theorem z8f{A:Type}(l:List A)(t:T α):(oE l t).run=t.run:=qk rfl t
@[simp] theorem z7U{A:Type}(l:List A)(t:T α):(oC l t).run=t.run:=qk ⟨rfl,rfl,rfl⟩ t
@[simp] theorem z62{a b:Nat}(t:T α)(h:a=b):(oM a b t).run=t.run:=(qk ⟨h,rfl,h⟩ _).trans (qk h t)
@[simp] theorem z7x{A:Type}{l:List A}{k:Nat}(t:T α)(h:(l.length+1)*k<=140737488355328):(oA l k t).run=t.run:=qk ⟨rfl,rfl,rfl,h⟩ t
@[simp] theorem z63{a b:zh}(t:T α)(h:a.length+b.length<=4611686018427387904):(oK a b t).run=t.run:=qk h t
@[simp] theorem Tk(t:T α):(zb True t).run=t.run:=qk trivial t
end T
@[simp] theorem z7H{x:Int}(h1 : -9223372036854775808<=x)(h2:x<=9223372036854775807):zD x=x:=IntWalk.i64_in x ⟨h1,h2⟩
@[simp] theorem z5S{x:Int}(h1:0<=x)(h2:x<=255):wu8 x=x:=IntWalk.u8_in x ⟨h1,h2⟩
@[simp] theorem z4M{x:Int}(h1:0<=x)(h2:x<=4294967295):kl x=x:=IntWalk.u32_in x ⟨h1,h2⟩
@[simp] theorem z5c{x:Int}(h1:0<=x)(h2:x<=18446744073709551615):qa x=x:=IntWalk.u64_in x ⟨h1,h2⟩
end Go.AM