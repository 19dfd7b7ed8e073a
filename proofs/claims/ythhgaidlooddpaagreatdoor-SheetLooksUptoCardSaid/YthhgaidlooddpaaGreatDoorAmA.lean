/-
  The abstract machine, part A: texts of our own, the same for each claim.
-/
import Derived.WalkKit
import Derived.Laws.StructEq
set_option linter.unusedVariables false
namespace Go.AM
theorem eP{a b c d:Prop}(h:a\/b)(f:a->c)(g:b->d):c\/d:=by grind
abbrev zf:=List UInt8
inductive Ty where
 | int (k:IntKind) | bool | str | sl (e:Ty) | nil | cons (a b:Ty) | expr
 deriving DecidableEq
inductive Expr where
 | mk (kind:Int) (num:Bool×List Int×List Int×Unit) (name:zf) (kids:List Expr)
def Expr.kind:Expr->Int | .mk k _ _ _=>k
def Expr.num:Expr->Bool×List Int×List Int×Unit | .mk _ n _ _=>n
def Expr.name:Expr->zf | .mk _ _ n _=>n
def Expr.kids:Expr->List Expr | .mk _ _ _ l=>l
@[reducible] def den:Ty->Type
 | .int _=>Int
 | .bool=>Bool
 | .str=>zf
 | .sl e=>List (den e)
 | .nil=>Unit
 | .cons a b=>den a×den b
 | .expr=>Expr
abbrev u32:Ty:=.int .u32
abbrev i64:Ty:=.int .i64
abbrev Ye:Ty:=.cons .bool (.cons (.sl u32) (.cons (.sl u32) .nil))
abbrev Qj:Ty:=.cons i64 (.cons Ye (.cons .str (.cons (.sl .expr) .nil)))
def Expr.N5(e:Expr):den Qj:=(e.kind,e.num,e.name,e.kids,())
def Expr.DY(x:den Qj):Expr:=.mk x.1 x.2.1 x.2.2.1 x.2.2.2.1
def Ty.size:Ty->Nat
 | .int _ | .bool | .str | .sl _=>1
 | .nil=>0
 | .cons a b=>a.size+b.size
 | .expr=>6
def Ty.isAgg:Ty->Bool
 | .nil | .cons _ _ | .expr=>true
 | _=>false
def zj:(τ:Ty)->den τ
 | .int _=>(0:Int)
 | .bool=>false
 | .str=>([]:zf)
 | .sl e=>([]:List (den e))
 | .nil=>()
 | .cons a b=>(zj a,zj b)
 | .expr=>.mk 0 (false,[],[],()) [] []
inductive D where
 | zI (τ:Ty) (x:den τ)
 | tight (e:Ty) (l:List (den e)) (ne:Bool)
 | xy | y9 | qX | vW | vX
 | ptr (b off:Nat)
 | qU (τ:Ty) (x:den τ)
 | uk (b qB:Nat) (e:Ty) (idx off:Nat)
 | ms (b qB:Nat) (e:Ty) (off len:Nat)
 | qN (f:Nat) (cap:List D)
 | agg (cs:List D)
 | yH (vs:List D)
 | iface (t:Nat) (d:D)
 | rZ
 | kS (b T:Nat)
 | cj (T:Nat)
inductive kE where
 | dead
 | var (d:D)
 | arr (qB:Nat) (e:Ty) (xs:List (den e))
abbrev St:=List kE
inductive T(α:Type) where
 | ret (a:α)
 | ite (b:Bool) (t e:T α)
 | zM (p:Prop) (t:T α)
 | fail
namespace T
variable {α β:Type}
def bind:T α->(α->T β)->T β
 | ret a,k=>k a
 | ite b t e,k=>ite b (t.bind k) (e.bind k)
 | zM p t,k=>zM p (t.bind k)
 | fail,_=>fail
def KU:Option α->T α
 | some a=>ret a
 | none=>fail
def leads:T α->α->Prop
 | ret a,x=>a=x
 | ite b t e,x=>(b=true/\t.leads x)\/(b=false/\e.leads x)
 | zM p t,x=>p/\t.leads x
 | fail,_=>False
def wp(Q:α->Prop):T α->Prop
 | ret a=>Q a
 | ite b t e=>(b=true->t.wp Q)/\(b=false->e.wp Q)
 | zM p t=>p/\t.wp Q
 | fail=>False
end T
abbrev Fr:=List (Nat×Option D)
def Fr.get:Fr->Nat->Option D
 | [],_=>none
 | (t,d)::r,s=>bif Nat.beq t s then d else Fr.get r s
def Fr.put(fr:Fr)(dst:Option Nat)(d:Option D):Fr :=
 match dst with
 | some t=>(t,d)::fr
 | none=>fr
abbrev Kn:=List (Nat×Option Bool)
def Kn.get:Kn->Nat->Option Bool
 | [],_=>none
 | (t,b)::r,s=>bif Nat.beq t s then b else Kn.get r s
inductive YH where
 | ret (ds:List D)
 | kM (d:D)
inductive Qu where
 | rp (τ:Ty) | im (τ:Ty)
inductive tI where
 | ty (τ:Ty) | rp (τ:Ty) | qN (f:Nat) (caps:List Qu)
structure Sig where
 params:List tI
 res:List Ty
structure Ctx where
 P:Program
 xid:Nat
 sig:Nat->List D->Option Sig
 fn:Nat->List D->St->T (YH×St)
 ro:Nat->Bool
 /-- Blocks that a call leaves as they are. -/
 free:Nat->List D->St->List Nat
 Ri:∀ (g:Nat) (args:List D) (st:St) (rs:YH) (zr:St) (b:Nat),(fn g args st).leads (rs,zr)->b∈free g args st->zr[b]? = st[b]?
inductive Ex where
 | normal | exit (id:Nat) | ret | kM (d:D)
class rM where
 u8:Nat
def z4u[rM](e:Ty)(t:Nat):Bool:=match e with
 | .int .u8=>Nat.beq t rM.u8
 | _=>true
def z3e[rM](e:Ty)(t:Nat):Prop:=e=.int .u8->t=rM.u8
section ops
variable (c:Ctx)
variable [rM]
def fJ(t:Nat):Option Nat:=(c.P.info? t).map (·.size)
def lS(t:Nat):Option Nat:=(c.P.info? t).map (·.bytes)
def BY(t:Nat):Option Bool:=match c.P.underlying t with | some (.struct _) | some (.array _ _)=>some true | some _=>some false | none=>none
def cR:List (Option Ty)->Option Ty
 | []=>some .nil
 | some a::r=>match cR r with | some b=>some (.cons a b) | none=>none
 | none::_=>none
def YZ:Nat->Nat->Option Ty
 | 0,_=>none
 | n+1,t=>bif Nat.beq t c.xid then some .expr else
  match c.P.underlying t with
  | some (.int k)=>some (.int k)
  | some .bool=>some .bool
  | some .string=>some .str
  | some (.slice e)=>match YZ n e with | some a=>some (.sl a) | none=>none
  | some (.struct fs)=>cR (fs.toList.map λf=>YZ n f.type)
  | some (.array k e)=>cR (List.replicate k (YZ n e))
  | _=>none
def ko(t:Nat)(τ:Ty):Bool:=z4u τ t&&(match fJ c t with | some n=>Nat.beq n τ.size | none=>false)&&(match BY c t with | some b=>b==τ.isAgg | none=>false)
def ox:Value->Option D
 | .int k n=>some (.zI (.int k) n)
 | .bool b=>some (.zI .bool b)
 | .string s=>some (.zI .str s.data.toList)
 | .slice none 0 0=>some .xy
 | .pointer none=>some .y9
 | .nilFunc=>some .vW
 | .nilIface=>some .qX
 | .map none=>some .vX
 | _=>none
def uB:List (Option D)->Option (List D)
 | []=>some []
 | some d::r=>match uB r with | some l=>some (d::l) | none=>none
 | none::_=>none
def XZ:Value->Option D
 | .agg cs=>match uB (cs.toList.map ox)with | some l=>some (.agg l) | none=>none
 | v=>ox v
def flat:(τ:Ty)->den τ->List D
 | .int k,x=>[.zI (.int k) x]
 | .bool,x=>[.zI .bool x]
 | .str,x=>[.zI .str x]
 | .sl e,x=>[.zI (.sl e) x]
 | .nil,_=>[]
 | .cons a b,x=>flat a x.1++flat b x.2
 | .expr,x=>[.zI i64 x.kind,.zI .bool x.num.1,.zI (.sl u32) x.num.2.1,.zI (.sl u32) x.num.2.2.1,.zI .str x.name,.zI (.sl .expr) x.kids]
def qg:D->List D
 | .zI τ x=>flat τ x
 | .agg cs=>cs
 | .yH _=>[]
 | d=>[d]
def D.isAgg:D->Bool
 | .agg _=>true
 | _=>false
def D.cS:D->Bool
 | .zI τ _=>τ.isAgg
 | .agg _=>true
 | _=>false
def D.zaP:D->Bool
 | .zI τ _=>τ.isAgg
 | .agg _=>true
 | _=>false
def gT:List D->Option Nat
 | .cj T::_=>some T
 | .kS _ T::_=>some T
 | _=>none
def D.typed:D->Option Nat
 | .agg l=>gT l
 | _=>none
def mr(d d':D):Bool:=match d'.typed with
 | none=>true
 | some T=>match d.typed with | some T'=>Nat.beq T T' | none=>false
def D.uM:D->Bool
 | .yH _=>true
 | _=>false
def wP{a b:Ty}(x:den a):Option (den b):=if h:a=b then some (h▸x)else none
def dx(e:Ty):Nat->Ty
 | 0=>.nil
 | n+1=>.cons e (dx e n)
def Hy:Ty->Option (Ty×Nat)
 | .cons e r=>match r with
  | .nil=>some (e,1)
  | r=>match Hy r with
   | some (e',n)=>bif decide (e=e')then some (e,n+1)else none
   | none=>none
 | _=>none
def pn(e:Ty):(τ:Ty)->den τ->Nat->den e
 | .cons _ _,x,0=>match(wP x.1:Option (den e))with | some y=>y | none=>zj e
 | .cons _ b,x,i+1=>pn e b x.2 i
 | _,_,_=>zj e
def Mk{e:Ty}(f:Nat->den e):(n:Nat)->Nat->den (dx e n)
 | 0,_=>()
 | n+1,k=>(f k,Mk f n (k+1))
def eX(τ:Ty):D->Option (den τ)
 | .zI σ x=>wP x
 | .tight e l _=>wP (a:=.sl e) l
 | .xy=>match τ with | .sl e=>some ([]:List (den e)) | _=>none
 | _=>none
def jh:(τ:Ty)->List D->Option (den τ×List D)
 | .int k,d::r=>match eX (.int k) d with | some x=>some (x,r) | none=>none
 | .bool,d::r=>match eX .bool d with | some x=>some (x,r) | none=>none
 | .str,d::r=>match eX .str d with | some x=>some (x,r) | none=>none
 | .sl e,d::r=>match eX (.sl e) d with | some x=>some (x,r) | none=>none
 | .nil,r=>some ((),r)
 | .cons a b,r=>match jh a r with
  | some (x,r')=>match jh b r' with | some (y,r'')=>some ((x,y),r'') | none=>none
  | none=>none
 | .expr,[]=>none
 | .expr,d::r=>match eX i64 d with
  | none=>none
  | some k=>match r with
   | d1::d2::d3::d4::d5::r' =>
    match eX .bool d1,eX (.sl u32) d2,eX (.sl u32) d3,eX .str d4,eX (.sl .expr) d5 with
    | some a,some n,some m,some s,some l=>some (Expr.mk k (a,n,m,()) s l,r')
    | _,_,_,_,_=>none
   | _=>none
 | _,[]=>none
def eG(τ:Ty)(d:D):Option (den τ) :=
 match d with
 | .zI σ x=>wP x
 | d=>bif (d.isAgg==τ.isAgg) && !d.uM then match jh τ (qg d)with
   | some (x,[])=>some x
   | _=>none
  else none
def mX(st:St):D->T D
 | .ms b qB e off len=>match st[b]? with
  | some (.arr jK e' xs)=>if h:e'=e then .zM (qB=jK) (.ret (.zI (.sl e) (h▸((xs.take (off+len)).drop off:List (den e')))))else .fail
  | _=>.fail
 | d=>.ret d
def K9(st:St):List D->T (List D)
 | []=>.ret []
 | d::r=>(mX st d).bind λx=>(K9 st r).bind λl=>.ret (x::l)
def snap(st:St):D->T D
 | .agg cs=>(K9 st cs).bind λl=>.ret (.agg l)
 | d=>mX st d
def Zk(st:St)(τ:Ty)(d:D):T (den τ):=(snap st d).bind λx=>.KU (eG τ x)
def JZ:D->Bool | .ms .. => true | _=>false
inductive bM where
 | val (t:T (Option D))
 | rd (k:St->T (Option D))
 | wr (k:St->T (Option D×St))
def val(d:D):bM:=.val (.ret (some d))
def z1Z(d:Option D):bM:=match d with | some d=>.val (.ret (some d)) | none=>.val .fail
def bad:bM:=.val .fail
def z47(t:Nat):Bool:=match c.P.underlying t with
 | some (.struct fs)=>match fs[0]? with
  | some fd=>match c.P.underlying fd.type with | some (.pointer e)=>Nat.beq e t | _=>false
  | none=>false
 | _=>false
def Sg(t:Nat)(d:D):D:=match d with
 | .agg (.y9::r)=>bif z47 c t then .agg (.cj t::r)else .agg (.y9::r)
 | d=>d
def XV(t:Nat):Option D:=match c.P.info? t with
 | some i=>match i.zero with | some z=>(match XZ z with | some d=>some (Sg c t d) | none=>none) | none=>none
 | none=>none
def JV(l:List D)(off n:Nat):Option (List D) :=
 bif Nat.ble (off+n) l.length then some ((l.drop off).take n)else none
def DD(t:Nat)(d:D)(off:Nat):Option D :=
 match BY c t with
 | some true=>match fJ c t with
  | none=>none
  | some n=>bif (Nat.beq off 0)&&Nat.beq n (qg d).length&&d.zaP then some d
   else match JV (qg d) off n with | some l=>some (.agg l) | none=>none
 | some false=>(qg d)[off]?
 | none=>none
def HB(t:Nat)(d:D)(off:Nat)(x:D):Option D :=
 match fJ c t with
 | none=>none
 | some n=>bif Nat.blt 0 n&&Nat.beq n (qg x).length&&Nat.ble (off+n) (qg d).length then
   bif Nat.beq n (qg d).length then some x
   else some (.agg ((qg d).take off++qg x++(qg d).drop (off+n)))
  else none
def UO(t:Nat)(a:Option D):bM:=match a with
 | some (.qU τ x)=>bif ko c t τ then val (.zI τ x)else bad
 | some (.ptr b off)=>.rd λst=>match st[b]? with
  | some (.var d)=>match DD c t d off with | some r=>.ret (some r) | none=>.fail
  | _=>.fail
 | some (.uk b qB e idx off)=>.rd λst=>match st[b]? with
  | some (.arr jK e' xs)=>bif decide (e'=e)then
    .zM (qB=jK/\idx<xs.length) (match DD c t (.zI e' (xs.getD idx (zj e'))) off with | some r=>.ret (some r) | none=>.fail)
   else .fail
  | _=>.fail
 | _=>bad
def Wj(t:Nat)(a:Option D)(v:Option D):bM:=match a,v with
 | some (.ptr b off),some x=>.wr λst=>match st[b]? with
  | some (.var d)=>match HB c t d off x with | some r=>bif mr d r then .ret (none,st.set b (.var r))else .fail | none=>.fail
  | _=>.fail
 | some (.uk b qB e idx off),some x=>.wr λst=>match st[b]? with
  | some (.arr jK e' xs)=>bif decide (e'=e)then
    .zM (qB=jK/\idx<xs.length) (match HB c t (.zI e' (xs.getD idx (zj e'))) off x with
     | some r=>match eG e' r with | some y=>.ret (none,st.set b (.arr jK e' (xs.set idx y))) | none=>.fail
     | none=>.fail)
   else .fail
  | _=>.fail
 | _,_=>bad
def ov:(τ:Ty)->den τ->Nat->Option (D×Nat×Nat)
 | .cons a _,x,0=>some (.qU a x.1,0,a.size)
 | .cons a b,x,n+1=>match ov b x.2 n with | some (d,o,s)=>some (d,a.size+o,s) | none=>none
 | .expr,x,0=>some (.qU i64 x.kind,0,1)
 | .expr,x,1=>some (.qU Ye x.num,1,3)
 | .expr,x,2=>some (.qU .str x.name,4,1)
 | .expr,x,3=>some (.qU (.sl .expr) x.kids,5,1)
 | _,_,_=>none
def Wx(s f:Nat):Option (Nat×Nat):=match c.P.underlying s with
 | some (.struct fs)=>match fs[f]? with
  | some fd=>match fJ c fd.type with | some n=>bif Nat.beq n 0 then none else some (fd.offset,n) | none=>none
  | none=>none
 | _=>none
def o8(s f:Nat)(a:Option D):bM:=match Wx c s f with
 | none=>bad
 | some (o,n)=>match a with
  | some (.qU τ x)=>match ov τ x f with
   | some (d,o',n')=>bif Nat.beq o o'&&Nat.beq n n' then val d else bad
   | none=>bad
  | some (.ptr b off)=>val (.ptr b (off+o))
  | some (.uk b qB e idx off)=>val (.uk b qB e idx (off+o))
  | _=>bad
def GC(s f:Nat)(a:Option D):bM:=match c.P.underlying s with
 | some (.struct fs)=>match fs[f]? with
  | some fd=>match a with
   | some d=>z1Z (bif d.cS then DD c fd.type d fd.offset else none)
   | none=>bad
  | none=>bad
 | _=>bad
def asInt:Option D->Option (IntKind×Int)
 | some (.zI (.int k) n)=>some (k,n)
 | _=>none
def Vg:Option D->Option zf
 | some (.zI .str s)=>some s
 | _=>none
def asBool:Option D->Option Bool
 | some (.zI .bool b)=>some b
 | _=>none
def fN(t:Nat):Option Nat:=match c.P.underlying t with | some (.slice e)=>some e | _=>none
def z52(t:Nat):Option (Nat×Nat):=match c.P.underlying t with | some (.array n e)=>some (n,e) | _=>none
def U8(t:Nat)(x:Option D)(i:Int):bM:=match z52 c t,x with
 | some (n,et),some (.qU τ y)=>match Hy τ with
  | some (e,m)=>bif ko c et e&&Nat.beq n m then .val (.zM (0<=i/\i<(n:Int)) (.ret (some (.qU e (pn e τ y i.toNat)))))else bad
  | none=>bad
 | _,_=>bad
def pA(t:Nat)(x i:Option D):bM:=match fN c t,asInt i with
 | none,some (_,i)=>U8 c t x i
 | some et,some (_,i)=>match x with
  | some (.zI (.sl e) l)=>bif ko c et e then .val (.zM (0<=i/\i<(List.length l:Int)) (.ret (some (.qU e (List.getD l i.toNat (zj e))))))else bad
  | some (.tight e l _)=>bif ko c et e then .val (.zM (0<=i/\i<(List.length l:Int)) (.ret (some (.qU e (List.getD l i.toNat (zj e))))))else bad
  | some (.ms b qB e off len)=>bif ko c et e then .val (.zM (0<=i/\i<(len:Int)) (.ret (some (.uk b qB e (off+i.toNat) 0))))else bad
  | _=>bad
 | _,_=>bad
def GM(t:Nat)(x i:Option D):bM:=match asInt i,Vg x,c.P.underlying t with
 | some (_,i),some s,some .string=>.val (.zM (0<=i/\i<(List.length s:Int)) (.ret (some (.zI (.int .u8) ((List.getD s i.toNat 0).toNat:Int)))))
 | _,_,_=>bad
def Mt(d:Int):Option (Option D)->Option Int
 | none=>some d
 | some x=>match asInt x with | some (_,i)=>some i | none=>none
def vv(l h:Int)(s:zf):zf:=(s.take h.toNat).drop l.toNat
def vr{e:Ty}(l h:Int)(s:List (den e)):List (den e):=(s.take h.toNat).drop l.toNat
def Gt(t:Nat)(x:Option D)(lo hi mx:Option (Option D)):bM:=match x with
 | some (.zI .str s)=>match c.P.underlying t,mx,Mt 0 lo,Mt (List.length s) hi with
  | some .string,none,some l,some h=>.val (.zM (0<=l/\l<=h/\h<=(List.length s:Int)) (.ret (some (.zI .str (vv l h s)))))
  | _,_,_,_=>bad
 | some (.zI (.sl e) s)=>match fN c t,Mt 0 lo,Mt (List.length s) hi with
  | some et,some l,some h=>bif ko c et e then match mx with
    | none=>.val (.zM (0<=l/\l<=h/\h<=(List.length s:Int)) (.ret (some (.zI (.sl e) (vr l h s)))))
    | some m=>match asInt m with
     | some (_,m)=>bif hi.isSome then .val (.zM (0<=l/\l<=h/\h=m/\h<=(List.length s:Int)) (.ret (some (.tight e (vr l h s) false))))else bad
     | none=>bad
   else bad
  | _,_,_=>bad
 | some (.tight e s _)=>match fN c t,mx,Mt 0 lo,Mt (List.length s) hi with
  | some et,none,some l,some h=>bif ko c et e then .val (.zM (0<=l/\l<=h/\h<=(List.length s:Int)) (.ret (some (.zI (.sl e) (vr l h s)))))else bad
  | _,_,_,_=>bad
 | some (.ms b qB e off len)=>match fN c t,mx,Mt 0 lo,Mt len hi with
  | some et,none,some l,some h=>bif ko c et e then .val (.zM (0<=l/\l<=h/\h<=(len:Int)) (.ret (some (.ms b qB e (off+l.toNat) (h.toNat-l.toNat)))))else bad
  | _,_,_,_=>bad
 | _=>bad
def ib(k:IntKind)(n:Int):bM:=val (.zI (.int k) n)
def bb(b:Bool):bM:=val (.zI .bool b)
def oP(k:IntKind)(f:BitVec k.bits->BitVec k.bits->BitVec k.bits)(x y:Int):Int:=k.wrap (f (BitVec.ofInt k.bits x) (BitVec.ofInt k.bits y)).toNat
def yD(k:IntKind)(a b:Int):Int:=k.wrap (a*2 ^ (min b.toNat k.bits))
def wD(k:IntKind)(a b:Int):Int:=Int.fdiv a (2 ^ (min b.toNat k.bits))
def EN(op:BinOp)(k:IntKind)(a b:Int):bM:=match op with
 | .add=>ib k (k.wrap (a+b))
 | .sub=>ib k (k.wrap (a-b))
 | .mul=>ib k (k.wrap (a*b))
 | .quo=>.val (.zM (b≠0) (.ret (some (.zI (.int k) (k.wrap (a.tdiv b))))))
 | .rem=>.val (.zM (b≠0) (.ret (some (.zI (.int k) (a.tmod b)))))
 | .and=>ib k (oP k (· &&& ·) a b)
 | .or=>ib k (oP k (· ||| ·) a b)
 | .xor=>ib k (oP k (· ^^^ ·) a b)
 | .eql=>bb (a==b)
 | .neq=>bb (a != b)
 | .lss=>bb (decide (a<b))
 | .leq=>bb (decide (a<=b))
 | .gtr=>bb (decide (b<a))
 | .geq=>bb (decide (b<=a))
 | _=>bad
def zl(a b:zf):Bool:=a==b
def strLt(a b:zf):Bool:=Op.bytesLess a b
def cat(a b:zf):zf:=a++b
def Ei(op:BinOp)(a b:zf):bM:=match op with
 | .add=>.val (.zM (a.length+b.length<=4611686018427387904) (.ret (some (.zI .str (cat a b)))))
 | .eql=>bb (zl a b)
 | .neq=>bb (!zl a b)
 | .lss=>bb (strLt a b)
 | .leq=>bb (strLt a b||zl a b)
 | .gtr=>bb (!(strLt a b||zl a b))
 | .geq=>bb (!strLt a b)
 | _=>bad
def OB(op:BinOp)(a b:Bool):bM:=match op with
 | .eql=>bb (a==b)
 | .neq=>bb (!(a==b))
 | _=>bad
def Ww:BinOp->Bool
 | .shl | .shr=>true
 | _=>false
def z0N(a:Ty)(t:Nat):Bool:=match a,c.P.underlying t with
 | .int k,some (.int k')=>decide (k=k')
 | .bool,some .bool=>true
 | .str,some .string=>true
 | _,_=>false
def Zm:Ty->Nat->List Field->Bool
 | .nil,_,[]=>true
 | .cons a r,off,f::fs=>decide (f.name ≠ "_")&&(Nat.beq f.offset off&&(z0N c a f.type&&Zm r (off+1) fs))
 | _,_,_=>false
def Tw:(τ:Ty)->den τ->den τ->Bool
 | .int _,(a:Int),(b:Int)=>a==b
 | .bool,(a:Bool),(b:Bool)=>a==b
 | .str,(a:zf),(b:zf)=>zl a b
 | .cons a r,(x:den a×den r),(y:den a×den r)=>Tw a x.1 y.1&&Tw r x.2 y.2
 | _,_,_=>true
def Ul(τ:Ty)(t:Nat):Bool:=match c.P.underlying t with
 | some (.struct fs)=>Zm c τ 0 fs.toList&&(!(c.P.stoodInHeld t) && !(c.P.eqGuardType c.P.depth t))
 | _=>false
def NN(op:BinOp)(t:Nat)(x y:Option D):bM:=match x,y with
 | some (.zI τ a),some (.zI σ b)=>match(wP b:Option (den τ))with
  | some b=>bif τ.isAgg&&Ul c τ t then(match op with
   | .eql=>bb (Tw τ a b)
   | .neq=>bb (!Tw τ a b)
   | _=>bad)else bad
  | none=>bad
 | _,_=>bad
def DE(op:BinOp)(t:Nat)(x y:Option D):bM:=match asInt x,asInt y with
 | some (k,a),some (k',b)=>match op with
  | .shl=>.val (.zM (0<=b) (.ret (some (.zI (.int k) (yD k a b)))))
  | .shr=>.val (.zM (0<=b) (.ret (some (.zI (.int k) (wD k a b)))))
  | op=>bif decide (k=k')then EN op k a b else bad
 | _,_=>match Vg x,Vg y with
  | some a,some b=>bif Ww op then bad else Ei op a b
  | _,_=>match c.P.underlying t,asBool x,asBool y with
   | some .bool,some a,some b=>OB op a b
   | _,_,_=>NN c op t x y
def Gc(op:BinOp)(t:Nat)(x:Option D):bM:=match c.P.underlying t with
 | some (.interface _)=>match op,x with
  | .eql,some .qX=>bb true
  | .eql,some (.iface _ _)=>bb false
  | .neq,some .qX=>bb false
  | .neq,some (.iface _ _)=>bb true
  | _,_=>bad
 | _=>bad
def mC(x:Option D)(at':Nat)(ok:Bool):bM:=match c.P.underlying at' with
 | some (.interface _)=>bad
 | none=>bad
 | some _=>match x with
  | some (.iface t d)=>bif Nat.beq t at'&&ok then val (.yH [d,.zI .bool true])else bad
  | _=>bad
def EA(op:BinOp)(t:Nat)(p:Operand)(x y:Option D):bM:=match p with
 | .const .nilIface=>Gc c op t x
 | _=>DE c op t x y
def Pq(op:UnOp)(x:Option D):bM:=match op with
 | .neg=>match asInt x with | some (k,n)=>ib k (k.wrap (0-n)) | none=>bad
 | .not=>match asBool x with | some b=>bb (!b) | none=>bad
 | .xor=>match asInt x with | some (k,n)=>ib k (oP k (· ^^^ ·) (if k.signed then -1 else k.max) n) | none=>bad
 | _=>bad
def byteOf(n:Int):UInt8:=UInt8.ofNat n.toNat
def C2(e:Ty):D->Option (List (den e))
 | .zI σ y=>wP (a:=σ) (b:=.sl e) y
 | .tight e' y _=>wP (a:=.sl e') (b:=.sl e) y
 | .xy=>some []
 | _=>none
def qK(l:List Int):zf:=l.map byteOf
def QC(e:Nat)(x:Option D):bM:=match c.P.underlying e,x with
 | some (.int .u8),some d=>.rd λst=>(mX st d).bind λy=>match C2 (.int .u8) y with
  | some l=>.ret (some (.zI .str (qK l)))
  | none=>.fail
 | _,_=>bad
def convertOp(s t:Nat)(x:Option D):bM:=match c.P.underlying s,c.P.underlying t with
 | some (.slice e),some .string=>QC c e x
 | some (.int _),some (.int k)=>match asInt x with | some (_,n)=>ib k (k.wrap n) | none=>bad
 | some .string,some .string=>match Vg x with | some s=>val (.zI .str s) | none=>bad
 | _,_=>bad
def PO(t:Nat)(x:Option D):bM:=match c.P.underlying t with
 | some (.slice _)=>match x with
  | some (.zI (.sl _) l)=>ib .i64 (List.length l)
  | some (.tight _ l _)=>ib .i64 (List.length l)
  | some .xy=>ib .i64 0
  | some (.ms _ _ _ _ len)=>ib .i64 (len:Nat)
  | _=>bad
 | some .string=>match Vg x with
  | some s=>ib .i64 (List.length s)
  | none=>bad
 | _=>bad
def ex(e:Ty){e':Ty}(xs:List (den e')):Option (List (den e)):=wP (a:=.sl e') (b:=.sl e) xs
def lB(e:Ty)(l ys:List (den e))(bytes:Nat)(st:St):T (Option D×St) :=
 .zM ((l.length+ys.length)*bytes<=140737488355328) (.ret (some (.ms st.length (l.length+ys.length) e 0 (l.length+ys.length)),st++[.arr (l.length+ys.length) e (l++ys)]))
def jL(e:Ty)(s:D)(ys:List (den e))(ne:Bool)(bytes:Nat)(st:St):T (Option D×St):=match s with
 | .xy=>bif ne then lB e [] ys bytes st else .ite ys.isEmpty (.ret (some s,st)) (lB e [] ys bytes st)
 | .tight e' l _=>match ex e l with
  | some l=>bif ne then lB e l ys bytes st else .ite ys.isEmpty (.ret (some s,st)) (lB e l ys bytes st)
  | none=>.fail
 | .ms b qB e' off len=>match st[b]? with
  | some (.arr jK e'' xs)=>match ex e xs with
   | some xs=>bif decide (e'=e)then .zM (qB=jK/\off=0/\len=xs.length/\(xs.length+ys.length)*bytes<=140737488355328)
     (.ret (some (.ms b (qB+ys.length) e 0 (len+ys.length)),st.set b (.arr (qB+ys.length) e (xs++ys))))else .fail
   | none=>.fail
  | _=>.fail
 | _=>.fail
def zeroOf(et:Nat)(e:Ty):Option (den e):=match XV c et with | some z=>eG e z | none=>none
def Q6(t:Nat)(s x:Option D):bM:=match fN c t with
 | none=>bad
 | some et=>match YZ c 20 et,lS c et with
  | some e,some bytes=>bif ko c et e&&Nat.blt 0 e.size&&Nat.blt 0 bytes&&(zeroOf c et e).isSome then match s,x with
    | some s,some x=>.wr λst=>(mX st x).bind λx=>match x with
     | .zI _ y=>match(wP y:Option (den (.sl e)))with
      | some ys=>jL e s ys false bytes st
      | none=>.fail
     | .tight _ y ne=>match ex e y with
      | some ys=>jL e s ys ne bytes st
      | none=>.fail
     | .xy=>jL e s [] false bytes st
     | _=>.fail
    | _,_=>bad
   else bad
  | _,_=>bad
def bytesOf(s:zf):List Int:=s.map λb=>((b.toNat:Nat):Int)
def pX(t t':Nat)(s x:Option D):bM:=match fN c t with
 | none=>bad
 | some et=>match YZ c 20 et,lS c et,c.P.underlying t' with
  | some (.int .u8),some bytes,some .string=>bif ko c et (.int .u8)&&Nat.blt 0 bytes&&(zeroOf c et (.int .u8)).isSome then match s,x with
    | some s,some (.zI .str l)=>.wr λst=>jL (.int .u8) s (bytesOf l) false bytes st
    | _,_=>bad
   else bad
  | _,_,_=>bad
def DK(t:Nat)(n m:Option D):bM:=match fN c t,asInt n,asInt m with
 | some et,some (_,n),some (_,m)=>match YZ c 20 et,lS c et with
  | some e,some bytes=>match zeroOf c et e with
   | some z=>bif ko c et e&&Nat.blt 0 e.size then
     .wr λst=>.zM (0<=n/\n<=m/\m*bytes<=140737488355328/\m<=140737488355328) (.ret (some (.ms st.length n.toNat e 0 n.toNat),st++[.arr n.toNat e (List.replicate n.toNat z)]))
    else bad
   | none=>bad
  | _,_=>bad
 | _,_,_=>bad
def K1(e:Ty):Nat->List (Nat×Option D)->Option (List (den e))
 | _,[]=>some []
 | i,(j,some d)::r=>bif Nat.beq i j then match eG e d,K1 e (i+1) r with
   | some x,some l=>some (x::l)
   | _,_=>none
  else none
 | _,_=>none
def lZ(t n:Nat)(ps:List (Nat×Option D)):bM:=match fN c t with
 | none=>bad
 | some et=>match YZ c 20 et with
  | some e=>bif ko c et e&&Nat.beq n ps.length&&Nat.ble n 1000&&Nat.ble e.size 100&&(zeroOf c et e).isSome then match K1 e 0 ps with
    | some l=>bif Nat.beq n 0&&Nat.blt 0 e.size then .wr λst=>.ret (some (.ms st.length 0 e 0 0),st++[.arr 0 e []])else val (.tight e l (!Nat.beq n 0))
    | none=>bad
   else bad
  | none=>bad
def eK(places:List (Nat×Nat)):List (Nat×Option D)->List D->Option (List D)
 | [],cells=>some cells
 | (i,some d)::r,cells=>match places[i]? with
  | some (off,n)=>bif !d.uM&&Nat.beq n (qg d).length&&Nat.ble (off+n) cells.length then
     eK places r (cells.take off++qg d++cells.drop (off+n))else none
  | none=>none
 | _,_=>none
def GB(t:Nat)(ps:List (Nat×Option D)):bM:=match c.P.underlying t with
 | some (.struct fs)=>match XV c t,fs.toList.mapM (λf=>(c.P.info? f.type).map λi=>(f.offset,i.size))with
  | some (.agg z),some places=>match eK places ps z with
   | some l=>val (.agg l)
   | none=>bad
  | _,_=>bad
 | some (.array k e)=>match XV c t,c.P.info? e with
  | some (.agg z),some ie=>match eK ((List.range k).map λi=>(i*ie.size,ie.size)) ps z with
   | some l=>val (.agg l)
   | none=>bad
  | _,_=>bad
 | _=>bad
def QJ(x:Option D)(i:Nat):bM:=match x with
 | some (.yH vs)=>z1Z vs[i]?
 | _=>bad
def yn:List D->D
 | [d]=>d
 | ds=>.yH ds
def Ty.scalar:Ty->Bool
 | .int _ | .bool | .str=>true
 | .cons a b=>a.scalar&&b.scalar
 | .nil=>true
 | _=>false
def rG:D->Bool
 | .zI τ _=>τ.scalar
 | _=>false
def mZ(st:St)(τ:Ty):D->T D
 | .qU _ x=>match(wP x:Option (den τ))with | some y=>.ret (.qU τ y) | none=>.fail
 | .ptr b off=>match st[b]? with
  | some (.var d)=>match bif Nat.beq off 0 then eG τ d else none with | some y=>.ret (.qU τ y) | none=>.fail
  | _=>.fail
 | _=>.fail
def p7(st:St):Qu->D->T D
 | .im τ,d=>(Zk st τ d).bind λx=>.ret (.zI τ x)
 | .rp τ,d=>mZ st τ d
def bY(st:St):List Qu->List D->T (List D)
 | [],[]=>.ret []
 | p::r,d::ds=>(p7 st p d).bind λx=>(bY st r ds).bind λl=>.ret (x::l)
 | _,_=>.fail
def Hm(st:St):tI->D->T D
 | .ty τ,d=>(Zk st τ d).bind λx=>.ret (.zI τ x)
 | .rp τ,d=>mZ st τ d
 | .qN f caps,.qN f' l=>bif Nat.beq f f' then(bY st caps l).bind λl=>.ret (.qN f l)else .fail
 | _,_=>.fail
def nc(st:St):List tI->List D->T (List D)
 | [],[]=>.ret []
 | p::r,d::ds=>(Hm st p d).bind λx=>(nc st r ds).bind λl=>.ret (x::l)
 | _,_=>.fail
def z5T:D->Bool | .ptr .. => true | _=>false
def Vk:D->Bool
 | .agg cs=>cs.any JZ
 | .qN _ l=>l.any λd=>JZ d||z5T d
 | .ptr .. => true
 | d=>JZ d
def PT(r:YH×St):T (Option D):=match r with
 | (.ret ds,[])=>.ret (some (yn ds))
 | _=>.fail
def pE(r:YH×St):T (Option D):=match r with
 | (.ret ds,[])=>bif ds.all rG then .ret (some (yn ds))else .fail
 | _=>.fail
def gw(g:Nat)(s:Sig)(args:List D):bM :=
 bif !(args.any Vk)then .val ((nc [] s.params args).bind λl=>(c.fn g l []).bind PT)
 else .rd λst=>(nc st s.params args).bind λl=>(c.fn g l []).bind pE
def pL(g:Nat)(args:List D):bM:=.wr λst=>(c.fn g args st).bind λr=>match r.1 with
 | .ret ds=>.ret (some (yn ds),r.2)
 | .kM _=>.fail
def yu(g:Nat):Nat:=bif Nat.ble 1000000 g then g % 1000000 else g
def jj{α:Type}(g:Nat)(l caps:List α):List α:=bif Nat.ble 1000000 g then caps++l else l++caps
def cP(f:Option D)(args:List (Option D)):bM:=match f,uB args with
 | some (.qN g caps),some l=>match c.sig (yu g) (jj g l caps)with
  | some s=>gw c (yu g) s (jj g l caps)
  | none=>pL c (yu g) (jj g l caps)
 | _,_=>bad
def G8(a b:Int):Int:=if b<a then b else a
def mj(a b:Int):Int:=if a<b then b else a
def U0(f:Int->Int->Int)(args:List (Option D)):bM:=match args with
 | [x,y]=>match asInt x,asInt y with
  | some (k,a),some (k',b)=>bif decide (k=k')then ib k (f a b)else bad
  | _,_=>bad
 | _=>bad
def kL{α:Type}(off len:Nat)(xs l:List α):List α:=xs.take off++l.take len++xs.drop (off+min len l.length)
def NQ(k:IntKind)(b qB off len:Nat)(l:List Int)(st:St):T (Option D×St):=match st[b]? with
 | some (.arr jK e' xs)=>match ex (.int k) xs with
  | some xs=>.zM (qB=jK/\off+len<=List.length xs) (.ret (some (.zI i64 ((min len l.length:Nat):Int)),st.set b (.arr jK (.int k) (kL off len xs l))))
  | none=>.fail
 | _=>.fail
def Dm(t:Nat)(s x:Option D):bM:=match fN c t with
 | some et=>match c.P.underlying et,fJ c et,s,x with
  | some (.int k),some 1,some (.ms b qB (.int k') off len),some d=>bif decide (k'=k)then .wr λst=>(mX st d).bind λy=>match C2 (.int k) y with
    | some l=>NQ k b qB off len l st
    | none=>.fail
   else bad
  | _,_,_,_=>bad
 | none=>bad
def lC(b:Builtin)(ts:List Nat)(args:List (Option D)):bM:=match b,ts,args with
 | .len,t::_,x::_=>PO c t x
 | .append,[t,t'],[s,x]=>bif Nat.beq t t' then Q6 c t s x else pX c t t' s x
 | .copy,[t,_],[s,x]=>Dm c t s x
 | .min,_,args=>U0 G8 args
 | .max,_,args=>U0 mj args
 | _,_,_=>bad
def uI(fr:Fr):Operand->Option D
 | .tmp t=>fr.get t
 | .const v=>XZ v
 | .global _=>none
 | .func f=>bif Nat.blt f 1000000 then some (.qN f [])else none
def sK(x:Option D):bM:=match x with
 | some (.ptr b o)=>val (.ptr b o)
 | some (.qU τ x)=>val (.qU τ x)
 | some (.uk b v e i o)=>val (.uk b v e i o)
 | some (.qN f l)=>val (.qN f l)
 | _=>bad
def Eb(x a b:Option D):bM:=match asBool x with
 | some x=>.val (.ite x (.ret a) (.ret b))
 | none=>bad
def nW(t:Nat)(x:Option D):bM:=match c.P.underlying t with
 | some (.interface _) | none=>bad
 | some _=>match x with | some d=>val (.iface t d) | none=>bad
def Pj(x:Option D):bM:=match x with
 | some d=>bif d.uM||d.typed.isSome then bad else .wr λst=>.ret (some (.ptr st.length 0),st++[.var d])
 | none=>bad
def Oy(t:Nat)(x:Option D):bM:=match x with
 | some (.zI τ x)=>val (.qU τ x)
 | some d=>match YZ c 20 t with
  | some τ=>match eG τ d with | some x=>val (.qU τ x) | none=>bad
  | none=>bad
 | none=>bad
def z8r:Option Nat->Bool
 | some s=>c.ro s
 | none=>false
def O0(t:Nat)(dst:Option Nat)(x:Option D):bM:=bif z8r c dst then Oy c t x else Pj x
def ma(t:Nat):bM:=match XV c t with
 | some d=>.wr λst=>.ret (some (.ptr st.length 0),st++[.var d])
 | none=>bad
def qI(ρ:Operand->Option D)(o:Oper):bM:=match o.op with
 | .move x | .assign x=>.val (.ret (ρ x))
 | .pick x a b=>Eb (ρ x) (ρ a) (ρ b)
 | .alloc t=>ma c t
 | .box t x=>O0 c t o.dst (ρ x)
 | .load t a=>UO c t (ρ a)
 | .store t a v=>Wj c t (ρ a) (ρ v)
 | .nilCheck x=>sK (ρ x)
 | .binOp op t x y _=>EA c op t y (ρ x) (ρ y)
 | .typeAssert x _ t ok=>mC c (ρ x) t ok
 | .unOp op _ x=>Pq op (ρ x)
 | .convert s t x=>convertOp c s t (ρ x)
 | .makeInterface t x=>nW c t (ρ x)
 | .makeFunc (.func f) first cap=>bif Nat.beq first.size 0&&Nat.blt f 1000000 then match uB (cap.toList.map ρ)with | some l=>val (.qN f l) | none=>bad
   else bif Nat.beq cap.size 0&&Nat.blt f 1000000 then match uB (first.toList.map ρ)with | some l=>val (.qN (f+1000000) l) | none=>bad else bad
 | .makeSlice t l m=>DK c t (ρ l) (ρ m)
 | .slice t x lo hi mx=>Gt c t (ρ x) (lo.map ρ) (hi.map ρ) (mx.map ρ)
 | .fieldAddr s x f=>o8 c s f (ρ x)
 | .field s x f=>GC c s f (ρ x)
 | .indexAddr t x i=>pA c t (ρ x) (ρ i)
 | .index t x i=>GM c t (ρ x) (ρ i)
 | .extract x i=>QJ (ρ x) i
 | .build t ps=>GB c t (ps.toList.map λp=>(p.1,ρ p.2))
 | .buildSlice t n ps=>lZ c t n (ps.toList.map λp=>(p.1,ρ p.2))
 | .call cl=>match cl.callee with
  | .builtin b=>lC c b cl.argTypes.toList (cl.args.toList.map ρ)
  | .value f=>cP c (ρ f) (cl.args.toList.map ρ)
  | .invoke _ _=>bad
 | _=>bad
def zH:bM->St->T (Option D×St)
 | .val t,st=>t.bind λd=>.ret (d,st)
 | .rd k,st=>(k st).bind λd=>.ret (d,st)
 | .wr k,st=>k st
end ops
end Go.AM
namespace Go.AM
def bM.kind:bM->Nat
 | .val _=>0
 | .rd _=>1
 | .wr _=>2
def uH(ops:Array Oper)(j:Nat):Option Nat:=match ops[j]? with | some o=>o.dst | none=>none
def M4:D:=.yH []
def vS(n:Nat):Option Nat->Bool
 | some t=>Nat.blt t n
 | none=>true
section
variable (c:Ctx)
variable [rM]
def cU(kn:Kn):Operand->Option Bool
 | .tmp t=>kn.get t
 | .const (.bool b)=>some b
 | _=>none
def JI(kn:Kn):Op->Option Bool
 | .move x | .assign x=>cU kn x
 | .pick x a b=>match cU kn x with
  | some true=>cU kn a
  | some false=>cU kn b
  | none=>none
 | _=>none
def nj(kn:Kn)(fr:Fr)(o:Oper):bM:=match o.op with
 | .pick x a b=>match cU kn x with
  | some true=>.val (.ret (uI fr a))
  | some false=>.val (.ret (uI fr b))
  | none=>qI c (uI fr) o
 | _=>qI c (uI fr) o
def Jx(kn:Kn)(dst:Option Nat)(b:Option Bool):Kn:=match dst with | some t=>(t,b)::kn | none=>kn
inductive RK where
 | z (k:Nat) | rd (b:Nat) | wr (free:List Nat) | up (b:Nat)
def RK.base:RK->Nat
 | .z k=>k
 | .rd _=>1
 | .wr _=>2
 | .up _=>2
def others(n:Nat)(l:List Nat):List Nat:=(List.range n).filter λb => !(l.any (Nat.beq b))
def z4X(d:Option D):Option Nat:=match d with
 | some d=>match d with
  | .ptr b _=>some b
  | .uk b _ _ _ _=>some b
  | _=>none
 | none=>none
def Li(bi:Builtin)(l:List (Option D)):RK:=match bi with
 | .append=>match l with | [some (.ms b _ _ _ _),some x]=>bif JZ x then .z 2 else .up b | _=>.z 2
 | _=>.z 2
def wh(ρ:Operand->Option D)(st:St)(o:Oper):RK:=match(qI c ρ o).kind with
 | 1=>match o.op with
  | .load _ a=>match z4X (ρ a)with | some b=>.rd b | none=>.z 1
  | _=>.z 1
 | 2=>match o.op with
  | .alloc _=>.wr (others st.length [])
  | .store _ a _=>match z4X (ρ a)with | some b=>.up b | none=>.z 2
  | .call cl=>match cl.callee with
   | .value f=>match ρ f,uB (cl.args.toList.map ρ)with | some (.qN g caps),some l=>.wr (c.free (yu g) (jj g l caps) st) | _,_=>.z 2
   | .builtin bi=>Li bi (cl.args.toList.map ρ)
   | _=>.z 2
  | _=>.z 2
 | k=>.z k
structure dr where
 fr:Fr
 kn:Kn
 st:St
 ks:List Nat      -- kinds of what has run,the last first
 bk:List RK
def gX(n:Nat)(o:Oper)(s:dr):T dr :=
 bif vS n o.dst then
  let cl:=nj c s.kn s.fr o
  (zH cl s.st).bind λr=>.ret ⟨s.fr.put o.dst r.1,Jx s.kn o.dst (JI s.kn o.op),r.2,cl.kind::s.ks,wh c (uI s.fr) s.st o::s.bk⟩
 else .fail
def jm(o:Oper)(s:dr):dr:=⟨s.fr.put o.dst (some M4),Jx s.kn o.dst none,s.st,0::s.ks,.z 0::s.bk⟩
def dr.bh(s:dr)(t:Nat)(b:Bool):dr:={ s with kn:=(t,some b)::s.kn }
def stepG(n:Nat)(ops:Array Oper)(o:Oper)(s:dr):T dr:=match o.guard with
 | none=>gX c n o s
 | some (j,want)=>match uH ops j with
  | none=>.fail
  | some t=>match s.kn.get t with
   | some b=>bif b==want then gX c n o s else bif vS n o.dst then .ret (jm o s)else .fail
   | none=>match s.fr.get t with
    | some (.zI .bool x)=>bif vS n o.dst then
      .ite x (bif want then gX c n o (s.bh t true)else .ret (jm o (s.bh t true)))
          (bif want then .ret (jm o (s.bh t false))else gX c n o (s.bh t false))
     else .fail
    | some (.yH [])=>bif vS n o.dst then .ret (jm o s)else .fail
    | _=>.fail
def iw(n:Nat)(ops:Array Oper):List Oper->dr->T dr
 | [],s=>.ret s
 | o::l,s=>(stepG c n ops o s).bind λs'=>iw n ops l s'
def tmpsOf(ops:Array Oper)(o:Oper):List Nat :=
 (match o.dst with | some d=>[d] | none=>[]) ++
 (match o.guard with | some (j,_)=>(match uH ops j with | some s=>[s] | none=>[]) | none=>[]) ++
 o.op.operands.toList.filterMap λ| .tmp t=>some t | _=>none
def xg(l:List Oper):List Nat->List Nat
 | acc=>match l with
  | []=>acc
  | o::r=>xg r (acc++[o.after.toList.foldl (λs e=>bif Region.binds .any e then s ||| 2 ^ e.on ||| acc.getD e.on 0 else s) 0])
def ordered(bs:List Nat)(i j:Nat):Bool:=Nat.testBit (bs.getD j 0) i
def uw(k l:Nat):Bool:=(Nat.beq k 2 && !Nat.beq l 0)||(Nat.beq l 2 && !Nat.beq k 0)
def Ea{K:Type}(cl:K->K->Bool)(bs:List Nat)(xs:List (Nat×Option Nat×List Nat×K))(j:Nat)(dj:Option Nat)(tj:List Nat)(kj:K):Bool :=
 xs.all λx=>ordered bs x.1 j||(!(match x.2.1 with | some d=>tj.contains d | none=>false) && !(match dj with | some d=>x.2.2.1.contains d | none=>false) && !cl x.2.2.2 kj)
def mM{K:Type}(cl:K->K->Bool)(ops:Array Oper)(bs:List Nat):List Oper->List K->Nat->List (Nat×Option Nat×List Nat×K)->Bool
 | [],_,_,_=>true
 | o::l,k::ks,j,xs=>let tj:=tmpsOf ops o; Ea cl bs xs j o.dst tj k&&mM cl ops bs l ks (j+1) ((j,o.dst,tj,k)::xs)
 | _,_,_,_=>false
def gR:List Oper->Nat->Bool
 | [],_=>true
 | o::l,j=>o.after.toList.all (λe => !Region.binds .any e||Nat.blt e.on j)&&gR l (j+1)
def Ll(ops:Array Oper)(ks:List Nat):Bool :=
 let l:=ops.toList
 gR l 0&&mM uw ops (xg l []) l ks 0 []
def W4(o:Oper):Bool:=(match o.op with | .alloc _=>true | _=>false)&&o.guard.isNone&&o.dst.isSome
def Ua:List Oper->List Nat->List Nat
 | o::l,k::ks=>(bif W4 o then 3 else k)::Ua l ks
 | _,_=>[]
def oi(k l:Nat):Bool:=bif Nat.beq k 3&&Nat.beq l 3 then false else uw (bif Nat.beq k 3 then 2 else k) (bif Nat.beq l 3 then 2 else l)
def Vo:List Oper->Nat->List Nat
 | [],_=>[]
 | o::l,i=>bif W4 o then i::Vo l (i+1)else Vo l (i+1)
def BQ(bs al:List Nat)(n:Nat):Bool:=(List.range n).all λj => !(al.any λp=>ordered bs p j)||al.all λp=>ordered bs p j
def FM(ops:Array Oper)(ks:List Nat):Bool :=
 let l:=ops.toList
 gR l 0&&(ks.all λk=>Nat.ble k 2)&&mM oi ops (xg l []) l (Ua l ks) 0 []&&BQ (xg l []) (Vo l 0) l.length
def uu:RK->RK->Bool
 | .rd b,.wr A => !(A.any (Nat.beq b))
 | .wr A,.rd b => !(A.any (Nat.beq b))
 | .rd b,.up a=>Nat.beq a b
 | .up a,.rd b=>Nat.beq a b
 | .up a,.up b=>Nat.beq a b
 | x,y=>uw x.base y.base
def Lo(ops:Array Oper)(ks:List RK):Bool :=
 let l:=ops.toList
 gR l 0&&mM uu ops (xg l []) l ks 0 []
def tH(ops:Array Oper)(ks:List Nat)(bk:List RK):Bool:=Ll ops ks||FM ops ks||Lo ops bk
def bQ(n:Nat)(ops:Array Oper)(draw:Bool)(fr:Fr)(kn:Kn)(st:St):T dr :=
 (iw c n ops ops.toList ⟨fr,kn,st,[],[]⟩).bind λs=>bif !draw||tH ops s.ks.reverse s.bk.reverse then .ret s else .fail
structure zfe where
 ex:Ex
 fr:Fr
 kn:Kn
 st:St
structure zdN where
 ex:Ex
 out:List (Nat×D)
 st:St
abbrev z8u:=Nat->Fr->St->T zdN
def z5c(l:List (Nat×D)):Fr:=l.map λp=>(p.1,some p.2)
def ev(n:Nat)(L:z8u):Code->Fr->Kn->St->T zfe
 | .skip,fr,kn,st=>.ret ⟨.normal,fr,kn,st⟩
 | .region _ ops draw,fr,kn,st=>(bQ c n ops draw fr kn st).bind λs=>.ret ⟨.normal,s.fr,s.kn,s.st⟩
 | .seq a b,fr,kn,st=>(ev n L a fr kn st).bind λr=>match r.ex with
  | .normal=>ev n L b r.fr r.kn r.st
  | _=>.ret r
 | .cond x a b,fr,kn,st=>match cU kn x with
  | some true=>ev n L a fr kn st
  | some false=>ev n L b fr kn st
  | none=>match x with
   | .tmp t=>match fr.get t with
    | some (.zI .bool v)=>.ite v (ev n L a fr ((t,some true)::kn) st) (ev n L b fr ((t,some false)::kn) st)
    | _=>.fail
   | _=>.fail
 | .block id (.loop _),fr,_,st=>(L id fr st).bind λr=>match r.ex with
   | .exit id'=>bif Nat.beq id' id then .ret ⟨.normal,z5c r.out,[],r.st⟩else .ret ⟨.exit id',z5c r.out,[],r.st⟩
   | .normal=>.fail
   | x=>.ret ⟨x,z5c r.out,[],r.st⟩
 | .block id a,fr,kn,st=>(ev n L a fr kn st).bind λr=>match r.ex with
  | .exit id'=>bif Nat.beq id' id then .ret { r with ex:=.normal } else .ret r
  | _=>.ret r
 | .exit id,fr,kn,st=>.ret ⟨.exit id,fr,kn,st⟩
 | .ret,fr,kn,st=>.ret ⟨.ret,fr,kn,st⟩
 | _,_,_,_=>.fail
def wu:List D->Nat->Fr
 | [],_=>[]
 | d::r,i=>(i,some d)::wu r (i+1)
def bp(fr:Fr)(st:St):List ResultVar->T (List D)
 | []=>.ret []
 | .tmp t::r=>match fr.get t with
  | some d=>(bp fr st r).bind λl=>.ret (d::l)
  | none=>.fail
 | .cell a t::r=>match fr.get a with
  | some (.ptr b off)=>match st[b]? with
   | some (.var d)=>match DD c t d off with
    | some x=>(bp fr st r).bind λl=>.ret (x::l)
    | none=>.fail
   | _=>.fail
  | _=>.fail
def vM(n:Nat):D->Bool
 | .ptr b _=>Nat.blt b n
 | .kS b _=>Nat.blt b n
 | .uk b .. => Nat.blt b n
 | .ms b .. => Nat.blt b n
 | .qN .. | .agg _ | .yH _ | .iface .. => false
 | _=>true
def gZ(n:Nat):D->Bool
 | .qN _ l=>l.all (vM n)
 | .agg l=>l.all (vM n)
 | .iface _ d=>vM n d
 | d=>vM n d
def Yq(n:Nat):kE->Bool
 | .var d=>gZ n d
 | _=>true
end
end Go.AM
namespace Go.AM
open Go.RowKit
inductive Rc(w:World)(ok:Nat->Prop):(τ:Ty)->den τ->List Value->Prop
 | int (k:IntKind) (n:Int):Rc w ok (.int k) n [.int k n]
 | bool (b:Bool):Rc w ok .bool b [.bool b]
 | str (s:zf):Rc w ok .str s [.string ⟨s.toArray⟩]
 | fG (e:Ty) (a:Option Addr):Rc w ok (.sl e) ([]:List (den e)) [.slice a 0 0]
 | sl (e:Ty) (l:List (den e)) (blk off cap:Nat) (f:Nat->List Value) (wm:ok blk) (vc:l.length<=cap)
   (h:∀ i (hi:i<l.length),Rc w ok e l[i] (f i))
   (hc:∀ i,i<l.length->∀ j v,(f i)[j]? = some v->w.cell? ⟨blk,off+i*e.size+j,none⟩=some v) :
   Rc w ok (.sl e) l [.slice (some ⟨blk,off,none⟩) l.length cap]
 | nil:Rc w ok .nil () []
 | cons (a b:Ty) (x:den a) (y:den b) (c1 c2:List Value) (h1:Rc w ok a x c1) (h2:Rc w ok b y c2):Rc w ok (.cons a b) (x,y) (c1++c2)
 | expr (k:Int) (n:den Ye) (s:zf) (l:List Expr) (cs:List Value) (h:Rc w ok Qj (k,n,s,l,()) cs):Rc w ok .expr (.mk k n s l) cs
def ED(w w':World)(ok Xn:Nat->Prop):Prop:=∀ k,ok k->Xn k/\w'.heap[k]? = w.heap[k]?
theorem bH{w w':World}{a:Addr}(h:w'.heap[a.block]? = w.heap[a.block]?):w'.cell? a=w.cell? a:=by simp[World.cell?,h]
section
variable {w w':World} {ok Xn:Nat->Prop}
theorem Rc.mono{τ:Ty}{x:den τ}{cs:List Value}(hs:ED w w' ok Xn)(h:Rc w ok τ x cs):Rc w' Xn τ x cs:=by
 induction h with
 | int k n=>exact .int k n
 | bool b=>exact .bool b
 | str s=>exact .str s
 | fG e a=>exact .fG e a
 | sl e l blk off cap f wm vc h hc ih=>exact .sl e l blk off cap f (hs _ wm).1 vc ih λi hi j v hv=>by rw[bH (hs _ wm).2]; exact hc i hi j v hv
 | nil=>exact .nil
 | cons a b x y c1 c2 h1 h2 i1 i2=>exact .cons a b x y c1 c2 i1 i2
 | expr k n s l cs h ih=>exact .expr k n s l cs ih
theorem Rc.len{τ:Ty}{x:den τ}{cs:List Value}(h:Rc w ok τ x cs):cs.length=τ.size:=by
 induction h with
 | cons a b x y c1 c2 h1 h2 i1 i2=>simp[Ty.size,i1,i2]
 | expr k n s l cs h ih=>simpa[Ty.size]using ih
 | _=>rfl
theorem Rc.one{τ:Ty}{x:den τ}{cs:List Value}(h:Rc w ok τ x cs):∀ v∈cs,v.oneCell'=true:=by
 induction h with
 | cons a b x y c1 c2 h1 h2 i1 i2=>grind
 | expr k n s l cs h ih=>exact ih
 | _=>intro v hv; simp at hv; try (subst hv; rfl)
theorem Rc.yk{k:IntKind}{n:Int}{cs:List Value}(h:Rc w ok (.int k) n cs):cs=[.int k n]:=by cases h; rfl
theorem Rc.jT{n:Bool}{cs:List Value}(h:Rc w ok .bool n cs):cs=[.bool n]:=by cases h; rfl
theorem Rc.wG{n:zf}{cs:List Value}(h:Rc w ok .str n cs):cs=[.string ⟨n.toArray⟩]:=by cases h; rfl
theorem Rc.cons_inv{a b:Ty}{x:den (.cons a b)}{cs:List Value}(h:Rc w ok (.cons a b) x cs):∃ c1 c2,cs=c1++c2/\Rc w ok a x.1 c1/\Rc w ok b x.2 c2:=by
 cases h with | cons _ _ x y c1 c2 h1 h2=>exact⟨c1,c2,rfl,h1,h2⟩
theorem Rc.qf{x:den .nil}{cs:List Value}(h:Rc w ok .nil x cs):cs=[]:=by cases h; rfl
theorem Rc.BB{x:Expr}{cs:List Value}(h:Rc w ok .expr x cs):Rc w ok Qj x.N5 cs:=by cases h with | expr k n s l cs h=>exact h
theorem Rc.QV{e:Ty}{l:List (den e)}{cs:List Value}(h:Rc w ok (.sl e) l cs):(l=[]/\∃ a,cs=[.slice a 0 0]) \/
  ∃ (blk off cap:Nat) (f:Nat->List Value),cs=[.slice (some ⟨blk,off,none⟩) l.length cap]/\ok blk/\l.length<=cap/\(∀ i (hi:i<l.length),Rc w ok e l[i] (f i)) /\
   (∀ i,i<l.length->∀ j v,(f i)[j]? = some v->w.cell? ⟨blk,off+i*e.size+j,none⟩=some v):=by
 cases h with
 | fG _ a=>simp
 | sl _ _ blk off cap f wm vc h hc=>exact .inr ⟨blk,off,cap,f,rfl,wm,vc,h,hc⟩
end
def pk(τ:Ty)(cs:List Value):Value:=if τ.isAgg then .agg cs.toArray else cs.headD undef
structure KS where
 w:World
 ok:Nat->Prop
 ph:List (Option (Nat×Nat))
 st:St
def Ih(ph:List (Option (Nat×Nat)))(b zd6:Nat)(e:Ty)(off len:Nat)(v:Value):Prop :=
 off+len<=zd6/\((len=0/\off=0/\v=.slice none 0 0/\ph[b]? = some none) \/
  ∃ (blk n o cap:Nat),ph[b]? = some (some (blk,n))/\v=.slice (some ⟨blk,o,none⟩) len cap/\len<=cap/\(off+cap)*e.size<=n/\(cap=0\/o=off*e.size))
def Old(st:St)(b qB:Nat):Prop:=st[b]? = some .dead\/∃ (v0:Nat) (e0:Ty) (sJ:List (den e0)),st[b]? = some (.arr v0 e0 sJ)/\qB<=v0
def D.one:D->Bool
 | .zI τ _ => !τ.isAgg
 | .agg _ | .yH _=>false
 | _=>true
def nq(f:Nat)(vs:List Value):Value:=bif Nat.ble 1000000 f then .func (.func (f % 1000000)) vs.toArray #[]else .func (.func f) #[] vs.toArray
theorem Gj{f:Nat}(h:Nat.blt f 1000000=true)(vs:List Value):nq f vs=.func (.func f) #[] vs.toArray:=by
 have:Nat.ble 1000000 f=false:=by
  cases hb:Nat.ble 1000000 f with
  | false=>rfl
  | true=>have h1:=Nat.le_of_ble_eq_true hb; have h2:=Nat.le_of_ble_eq_true h; omega
 unfold nq; rw[this]; rfl
theorem Er{f:Nat}(h:Nat.blt f 1000000=true)(vs:List Value):nq (f+1000000) vs=.func (.func f) vs.toArray #[]:=by
 have h1:Nat.ble 1000000 (f+1000000)=true:=Nat.ble_eq_true_of_le (by omega)
 have h2:=Nat.le_of_ble_eq_true h
 have h3:(f+1000000) % 1000000=f:=by omega
 unfold nq; rw[h1,h3]; rfl
theorem Vs(f:Nat)(vs:List Value):(nq f vs).cells.toList=[nq f vs]:=by
 unfold nq; cases Nat.ble 1000000 f<;>rfl
theorem S1(f:Nat)(vs:List Value):(nq f vs).oneCell'=true:=by
 unfold nq; cases Nat.ble 1000000 f<;>rfl
theorem VQ(f:Nat)(vs:List Value):∃ g a b,nq f vs=.func (.func g) a b:=by
 unfold nq; cases Nat.ble 1000000 f<;>exact⟨_,_,_,rfl⟩
inductive RD(κ:KS):D->Value->Prop
 | zI (τ:Ty) (x:den τ) (cs:List Value) (h:Rc κ.w κ.ok τ x cs):RD κ (.zI τ x) (pk τ cs)
 | xi (e:Ty) (a:Option Addr):RD κ (.tight e ([]:List (den e)) false) (.slice a 0 0)
 | tight (e:Ty) (l:List (den e)) (ne:Bool) (blk off:Nat) (f:Nat->List Value) (vT:ne=true->l≠[]) (wm:κ.ok blk)
   (h:∀ i (hi:i<l.length),Rc κ.w κ.ok e l[i] (f i))
   (hc:∀ i,i<l.length->∀ j v,(f i)[j]? = some v->κ.w.cell? ⟨blk,off+i*e.size+j,none⟩=some v) :
   RD κ (.tight e l ne) (.slice (some ⟨blk,off,none⟩) l.length l.length)
 | xy:RD κ .xy (.slice none 0 0)
 | y9:RD κ .y9 (.pointer none)
 | qX:RD κ .qX .nilIface
 | vW:RD κ .vW .nilFunc
 | vX:RD κ .vX (.map none)
 | rZ (v:Value) (h:v.oneCell'=true):RD κ .rZ v
 | cj (T:Nat):RD κ (.cj T) (.pointer none)
 | cq (b T:Nat) (d:D) (hd:κ.st[b]? = some (.var d)):RD κ (.kS b T) (.pointer none)
 | cE (b T blk n:Nat) (d:D) (hd:κ.st[b]? = some (.var d)) (h:κ.ph[b]? = some (some (blk,n))):RD κ (.kS b T) (.pointer (some ⟨blk,0,none⟩))
 | ptr (b off blk n:Nat) (d:D) (hd:κ.st[b]? = some (.var d)) (h:κ.ph[b]? = some (some (blk,n))):RD κ (.ptr b off) (.pointer (some ⟨blk,off,none⟩))
 | qU (τ:Ty) (x:den τ) (cs:List Value) (blk off:Nat) (wm:κ.ok blk) (h:Rc κ.w κ.ok τ x cs)
   (hc:∀ j v,cs[j]? = some v->κ.w.cell? ⟨blk,off+j,none⟩=some v):RD κ (.qU τ x) (.pointer (some ⟨blk,off,none⟩))
 | uk (b qB:Nat) (e:Ty) (idx off blk o:Nat) (hb:Old κ.st b qB)
   (h:∀ xs:List (den e),κ.st[b]? = some (.arr qB e xs)->idx<xs.length->∃ n:Nat,κ.ph[b]? = some (some (blk,n))/\o=idx*e.size+off) :
   RD κ (.uk b qB e idx off) (.pointer (some ⟨blk,o,none⟩))
 | ms (b qB:Nat) (e:Ty) (off len cap:Nat) (a:Option Addr) (hb:Old κ.st b qB) (vc:len<=cap) (ha:a=none->cap=0) (nN:∀ p,a=some p->p.spot=none)
   (h:∀ xs:List (den e),κ.st[b]? = some (.arr qB e xs)->Ih κ.ph b xs.length e off len (.slice a len cap)):RD κ (.ms b qB e off len) (.slice a len cap)
 | qN (f:Nat) (l:List D) (vs:List Value) (hl:l.length=vs.length) (h:∀ i (h1:i<l.length) (h2:i<vs.length),RD κ l[i] vs[i]):RD κ (.qN f l) (nq f vs)
 | agg (l:List D) (vs:List Value) (hl:l.length=vs.length) (ho:∀ d∈l,d.one=true) (h:∀ i (h1:i<l.length) (h2:i<vs.length),RD κ l[i] vs[i]):RD κ (.agg l) (.agg vs.toArray)
 | yH (l:List D) (vs:List Value) (hl:l.length=vs.length) (h:∀ i (h1:i<l.length) (h2:i<vs.length),RD κ l[i] vs[i]):RD κ (.yH l) (.tuple vs.toArray)
 | iface (t:Nat) (d:D) (v:Value) (h:RD κ d v):RD κ (.iface t d) (.iface t v)
def qH(κ:KS)(l:List D)(vs:List Value):Prop:=l.length=vs.length/\∀ i (h1:i<l.length) (h2:i<vs.length),RD κ l[i] vs[i]
def dR[rM](κ:KS)(b:Nat):kE->Prop
 | .dead=>True
 | .var d=>∃ (blk n:Nat) (cs:Array Value) (t:TypeId),κ.ph[b]? = some (some (blk,n))/\κ.w.heap[blk]? = some (.cells cs t (0,0))/\cs.size=n/\qH κ (qg d) cs.toList/\(∀ x∈qg d,x.one=true)/\∀ T,d.typed=some T->t=T
 | .arr _ e xs=>0<e.size/\((xs=[]/\κ.ph[b]? = some none) \/
   ∃ (blk n:Nat) (cs:Array Value) (t:TypeId),κ.ph[b]? = some (some (blk,n))/\κ.w.heap[blk]? = some (.cells cs t (0,0))/\cs.size=n/\xs.length*e.size<=n/\z3e e t /\
    ∃ f:Nat->List Value,∀ i (hi:i<xs.length),Rc κ.w κ.ok e xs[i] (f i)/\∀ j v,(f i)[j]? = some v->cs[i*e.size+j]? = some v)
class vU extends rM where
 tab:List (Nat×(Obj->Prop))
def sY[vU](w:World)(ok:Nat->Prop):Prop:=∀ x∈vU.tab,ok x.1/\∃ o,w.heap[x.1]? = some o/\x.2 o
theorem sY.mono[vU]{w w':World}{ok Xn:Nat->Prop}(h:sY w ok)(hs:ED w w' ok Xn):sY w' Xn:=λx hx=>by
 obtain⟨h1,o,h2,h3⟩:=h x hx
 obtain⟨g1,g2⟩:=hs _ h1
 grind
structure Inv[vU](κ:KS):Prop where
 len:κ.ph.length=κ.st.length
 yr:∀ k,κ.ok k->k<κ.w.heap.size
 apart:∀ (b blk n:Nat),κ.ph[b]? = some (some (blk,n))->blk<κ.w.heap.size/\¬ κ.ok blk
 inj:∀ (b b' blk n n':Nat),κ.ph[b]? = some (some (blk,n))->κ.ph[b']? = some (some (blk,n'))->b=b'
 blk:∀ (b:Nat) (x:kE),κ.st[b]? = some x->dR κ b x
 gl:sY κ.w κ.ok
structure Ext(κ κ':KS):Prop where
 os:κ'.w.os=κ.w.os
 tape:κ'.w.tape=κ.w.tape
 output:κ'.w.output=κ.w.output
 size:κ.w.heap.size<=κ'.w.heap.size
 same:ED κ.w κ'.w κ.ok κ'.ok
 fresh:∀ k,κ'.ok k->κ.ok k\/κ.w.heap.size<=k\/∃ b n:Nat,κ.ph[b]? = some (some (k,n))
 Tz:∀ (b blk n:Nat),κ'.ph[b]? = some (some (blk,n))->κ.ph[b]? = some (some (blk,n))\/κ.w.heap.size<=blk
 var:∀ (b:Nat) (d:D),κ.st[b]? = some (.var d)->(∃ d',κ'.st[b]? = some (.var d'))/\κ'.ph[b]? = κ.ph[b]?
 arr:∀ (b v0:Nat) (e:Ty) (sJ:List (den e)),κ.st[b]? = some (.arr v0 e sJ)->κ'.st[b]? = some .dead \/
  ∃ (v1:Nat) (bg:List (den e)),κ'.st[b]? = some (.arr v1 e bg)/\v0<=v1/\(v0=v1->κ'.ph[b]? = κ.ph[b]? /\ sJ.length=bg.length)
 dead:∀ (b:Nat),κ.st[b]? = some .dead->κ'.st[b]? = some .dead
 C1:κ.st.length<=κ'.st.length
 frame:∀ k,k<κ.w.heap.size->(∀ (b n:Nat),κ.ph[b]? ≠ some (some (k,n)))->κ'.w.heap[k]? = κ.w.heap[k]?
theorem Ext.refl(κ:KS):Ext κ κ :=
 ⟨rfl,rfl,rfl,Nat.le_refl _,λ_ h=>⟨h,rfl⟩,λ_ h=>.inl h,λ_ _ _ h=>.inl h,λ_ d h=>⟨⟨d,h⟩,rfl⟩,
  λ_ qB _ xs h=>.inr ⟨qB,xs,h,Nat.le_refl _,λ_=>⟨rfl,rfl⟩⟩,λ_ h=>h,Nat.le_refl _,λ_ _ _=>rfl⟩
theorem Ext.trans{a b c:KS}(h:Ext a b)(k:Ext b c):Ext a c:=by
 refine⟨k.os.trans h.os,k.tape.trans h.tape,k.output.trans h.output,Nat.le_trans h.size k.size,?_,?_,?_,?_,?_,λb hb=>k.dead b (h.dead b hb),Nat.le_trans h.C1 k.C1,?_⟩
 ·intro i hi
  obtain⟨h1,h2⟩:=h.same i hi
  obtain⟨h3,h4⟩:=k.same i h1
  grind
 ·intro i hi
  rcases k.fresh i hi with h1 | h1 | ⟨b,n,h1⟩
  ·exact h.fresh i h1
  ·exact .inr (.inl (Nat.le_trans h.size h1))
  ·rcases h.Tz b i n h1 with h2 | h2
   ·grind
   ·grind
 ·intro i blk n hi
  rcases k.Tz i blk n hi with h1 | h1
  ·exact h.Tz i blk n h1
  ·exact .inr (Nat.le_trans h.size h1)
 ·intro i d hi
  obtain⟨⟨d',kR⟩,hp⟩:=h.var i d hi
  obtain⟨zie,hp'⟩:=k.var i d' kR
  grind
 ·intro i v0 e sJ hi
  rcases h.arr i v0 e sJ hi with h1 | ⟨v1,x1,h1,h2,h3⟩
  ·exact .inl (k.dead i h1)
  ·rcases k.arr i v1 e x1 h1 with g1 | ⟨v2,x2,g1,g2,g3⟩
   ·grind
   ·grind
 ·intro i hi hn
  refine(k.frame i (Nat.lt_of_lt_of_le hi h.size) λb n hb => ?_).trans (h.frame i hi hn)
  rcases h.Tz b i n hb with h1 | h1
  ·grind
  ·omega
theorem Ext.old{κ κ':KS}(x:Ext κ κ'){b qB:Nat}(h:Old κ.st b qB):Old κ'.st b qB:=by
 rcases h with h | ⟨v0,e0,sJ,h,hv⟩
 ·exact .inl (x.dead b h)
 ·rcases x.arr b v0 e0 sJ h with h1 | ⟨v1,x1,h1,h2,_⟩
  ·exact .inl h1
  ·exact .inr ⟨v1,e0,x1,h1,Nat.le_trans hv h2⟩
theorem Ext.back{κ κ':KS}(x:Ext κ κ'){b qB:Nat}(h:Old κ.st b qB){e:Ty}{xs:List (den e)}(hx:κ'.st[b]? = some (.arr qB e xs)) :
  ∃ sJ:List (den e),κ.st[b]? = some (.arr qB e sJ)/\κ'.ph[b]? = κ.ph[b]? /\ sJ.length=xs.length:=by
 rcases h with h | ⟨v0,e0,sJ,h,hv⟩
 ·have:=x.dead b h; rw[hx]at this; cases this
 ·rcases x.arr b v0 e0 sJ h with h1 | ⟨v1,x1,h1,h2,h3⟩
  ·grind
  ·grind
theorem RD.mono{κ κ':KS}(x:Ext κ κ'){d:D}{v:Value}(h:RD κ d v):RD κ' d v:=by
 induction h with
 | zI τ y cs h=>exact .zI τ y cs (h.mono x.same)
 | xi e a=>exact .xi e a
 | tight e l ne blk off f vT wm h hc=>exact .tight e l ne blk off f vT (x.same _ wm).1 (λi hi=>(h i hi).mono x.same) λi hi j v hv=>by rw[bH (x.same _ wm).2]; exact hc i hi j v hv
 | xy=>exact .xy
 | y9=>exact .y9
 | qX=>exact .qX
 | vW=>exact .vW
 | vX=>exact .vX
 | rZ v h=>exact .rZ v h
 | cj T=>exact .cj T
 | cq b T d hd =>
  obtain⟨⟨d',kR⟩,hp⟩:=x.var b d hd
  exact .cq b T d' kR
 | cE b T blk n d hd h =>
  obtain⟨⟨d',kR⟩,hp⟩:=x.var b d hd
  exact .cE b T blk n d' kR (hp.trans h)
 | ptr b off blk n d hd h =>
  obtain⟨⟨d',kR⟩,hp⟩:=x.var b d hd
  exact .ptr b off blk n d' kR (hp.trans h)
 | qU τ y cs blk off wm h hc=>exact .qU τ y cs blk off (x.same _ wm).1 (h.mono x.same) λj v hv=>by rw[bH (x.same _ wm).2]; exact hc j v hv
 | uk b qB e idx off blk o hb h =>
  refine .uk b qB e idx off blk o (x.old hb) λxs hx hi => ?_
  obtain⟨sJ,h1,h2,h3⟩:=x.back hb hx
  grind
 | ms b qB e off len cap a hb vc ha nN h =>
  refine .ms b qB e off len cap a (x.old hb) vc ha nN λxs hx => ?_
  obtain⟨sJ,h1,h2,h3⟩:=x.back hb hx
  have:=h sJ h1
  unfold Ih at this ⊢
  grind
 | qN f l vs hl h ih=>exact .qN f l vs hl ih
 | agg l vs hl ho h ih=>exact .agg l vs hl ho ih
 | yH l vs hl h ih=>exact .yH l vs hl ih
 | iface t d v h ih=>exact .iface t d v ih
end Go.AM
namespace Go.AM
section
variable {α β:Type}
theorem T.zG{t:T α}{k:α->T β}{b:β}:(t.bind k).leads b↔∃ a,t.leads a/\(k a).leads b:=by
 induction t with
 | ret a=>simp[T.bind,T.leads]
 | ite c t e i1 i2 =>
  simp only[T.bind,T.leads]
  grind
 | zM p t ih =>
  simp only[T.bind,T.leads]; constructor
  ·grind
  ·grind
 | fail=>simp[T.bind,T.leads]
theorem T.ud{o:Option α}{a:α}:(T.KU o).leads a↔o=some a:=by cases o<;>simp[T.KU,T.leads]
end
section
variable {κ:KS}
theorem qH.nil:qH κ [] []:=⟨rfl,λi h _=>absurd h (Nat.not_lt_zero i)⟩
theorem qH.cons{d:D}{v:Value}{l:List D}{vs:List Value}(h:RD κ d v)(t:qH κ l vs):qH κ (d::l) (v::vs) :=
 ⟨by simp[t.1],λi h1 h2=>by cases i with | zero=>exact h | succ i=>exact t.2 i (by grind) (by grind)⟩
theorem qH.cons_inv{d:D}{l:List D}{vs:List Value}(h:qH κ (d::l) vs):∃ v r,vs=v::r/\RD κ d v/\qH κ l r:=by
 obtain⟨hl,h⟩:=h
 cases vs with
 | nil=>simp at hl
 | cons v r=>exact⟨v,r,rfl,h 0 (by simp) (by simp),by grind,λi h1 h2=>h (i+1) (by grind) (by grind)⟩
theorem qH.qf{vs:List Value}(h:qH κ [] vs):vs=[]:=List.eq_nil_of_length_eq_zero h.1.symm
theorem qH.append{l l':List D}{vs vs':List Value}(h:qH κ l vs)(h':qH κ l' vs'):qH κ (l++l') (vs++vs'):=by
 induction l generalizing vs with
 | nil=>rw[h.qf]; exact h'
 | cons d l ih=>obtain⟨v,r,rfl,h1,h2⟩:=h.cons_inv; exact .cons h1 (ih h2)
theorem qH.Dl{l l':List D}{vs:List Value}(h:qH κ (l++l') vs):∃ v1 v2,vs=v1++v2/\qH κ l v1/\qH κ l' v2:=by
 induction l generalizing vs with
 | nil=>exact⟨[],vs,rfl,.nil,h⟩
 | cons d l ih =>
  obtain⟨v,r,rfl,h1,h2⟩:=h.cons_inv
  obtain⟨v1,v2,rfl,h3,h4⟩:=ih h2
  exact⟨v::v1,v2,rfl,.cons h1 h3,h4⟩
theorem qH.get{l:List D}{vs:List Value}(h:qH κ l vs){i:Nat}{d:D}(hd:l[i]? = some d):∃ v,vs[i]? = some v/\RD κ d v:=by
 obtain⟨qy,he⟩:=List.getElem?_eq_some_iff.1 hd
 have h2:i<vs.length:=h.1▸qy
 exact⟨vs[i],List.getElem?_eq_getElem h2,he▸h.2 i qy h2⟩
theorem qH.take{l:List D}{vs:List Value}(h:qH κ l vs)(n:Nat):qH κ (l.take n) (vs.take n) :=
 ⟨by simp[h.1],λi h1 h2=>by simp; exact h.2 i (by grind) (by grind)⟩
theorem qH.drop{l:List D}{vs:List Value}(h:qH κ l vs)(n:Nat):qH κ (l.drop n) (vs.drop n) :=
 ⟨by simp[h.1],λi h1 h2=>by simp; exact h.2 (n+i) (by grind) (by grind)⟩
theorem qH.mono{κ':KS}(x:Ext κ κ'){l:List D}{vs:List Value}(h:qH κ l vs):qH κ' l vs:=⟨h.1,λi h1 h2=>(h.2 i h1 h2).mono x⟩
theorem Qf{τ:Ty}{cs:List Value}(h:cs.length=τ.size)(nM:∀ v∈cs,v.oneCell'=true):(pk τ cs).cells.toList=cs:=by
 unfold pk
 split
 ·rfl
 ·rename_i hn
  have hs:τ.size=1:=by cases τ<;>simp[Ty.isAgg]at hn<;>rfl
  match cs,h,nM with
  | [v],_,nM =>
   have:=nM v (by simp)
   cases v<;>first | rfl | cases this
  | [],h,_=>grind
  | _::_::_,h,_=>grind
theorem Uq{τ:Ty}(h:τ.isAgg=false)(v:Value):pk τ [v]=v:=by simp[pk,h]
theorem Xs{τ:Ty}(h:τ.isAgg=false):τ.size=1:=by cases τ<;>simp[Ty.isAgg]at h<;>rfl
theorem Rc.single{w:World}{ok:Nat->Prop}{τ:Ty}{x:den τ}{cs:List Value}(h:Rc w ok τ x cs)(ht:τ.isAgg=false):∃ v,cs=[v]:=by
 have:=h.len
 rw[Xs ht]at this
 match cs,this with
 | [v],_=>simp
theorem RD.mg{τ:Ty}{x:den τ}{v:Value}(ht:τ.isAgg=false)(h:Rc κ.w κ.ok τ x [v]):RD κ (.zI τ x) v:=by
 have:=RD.zI τ x [v] h
 rwa [Uq ht]at this
theorem RD.gn{τ:Ty}{x:den τ}{v:Value}(h:RD κ (.zI τ x) v):∃ cs,Rc κ.w κ.ok τ x cs/\v=pk τ cs:=by
 cases h with | zI _ _ cs h=>exact⟨cs,h,rfl⟩
theorem RD.vi{τ:Ty}{x:den τ}{v:Value}(h:RD κ (.zI τ x) v)(ht:τ.isAgg=false):Rc κ.w κ.ok τ x [v]:=by
 obtain⟨cs,hc,rfl⟩:=RD.gn h
 obtain⟨u,rfl⟩:=hc.single ht
 rwa [Uq ht]
theorem RD.int{k:IntKind}{n:Int}:RD κ (.zI (.int k) n) (.int k n):=RD.mg rfl (.int k n)
theorem RD.bool{b:Bool}:RD κ (.zI .bool b) (.bool b):=RD.mg rfl (.bool b)
theorem RD.str{s:zf}:RD κ (.zI .str s) (.string ⟨s.toArray⟩):=RD.mg rfl (.str s)
theorem RD.yk{k:IntKind}{n:Int}{v:Value}(h:RD κ (.zI (.int k) n) v):v=.int k n:=by have:=(h.vi rfl).yk; simpa using this
theorem RD.jT{b:Bool}{v:Value}(h:RD κ (.zI .bool b) v):v=.bool b:=by have:=(h.vi rfl).jT; simpa using this
theorem RD.wG{s:zf}{v:Value}(h:RD κ (.zI .str s) v):v=.string ⟨s.toArray⟩:=by have:=(h.vi rfl).wG; simpa using this
theorem qH.one{d:D}{v:Value}(h:RD κ d v):qH κ [d] [v]:=.cons h .nil
theorem oD{τ:Ty}{x:den τ}{cs:List Value}(h:Rc κ.w κ.ok τ x cs):qH κ (flat τ x) cs:=by
 induction τ generalizing cs with
 | int k=>obtain⟨v,rfl⟩:=h.single rfl; exact .one (.mg rfl h)
 | bool=>obtain⟨v,rfl⟩:=h.single rfl; exact .one (.mg rfl h)
 | str=>obtain⟨v,rfl⟩:=h.single rfl; exact .one (.mg rfl h)
 | sl e _=>obtain⟨v,rfl⟩:=h.single rfl; exact .one (.mg rfl h)
 | nil=>rw[h.qf]; exact .nil
 | cons a b i1 i2=>obtain⟨c1,c2,rfl,h1,h2⟩:=h.cons_inv; exact(i1 h1).append (i2 h2)
 | expr =>
  obtain⟨c1,r1,rfl,h1,t1⟩:=h.BB.cons_inv
  obtain⟨c2,r2,rfl,h2,t2⟩:=t1.cons_inv
  obtain⟨c3,r3,rfl,h3,t3⟩:=t2.cons_inv
  obtain⟨c4,r4,rfl,h4,t4⟩:=t3.cons_inv
  have e4:=t4.qf
  subst e4
  obtain⟨d1,s1,rfl,g1,u1⟩:=h2.cons_inv
  obtain⟨d2,s2,rfl,g2,u2⟩:=u1.cons_inv
  obtain⟨d3,s3,rfl,g3,u3⟩:=u2.cons_inv
  have e5:=u3.qf
  subst e5
  obtain⟨v1,rfl⟩:=h1.single rfl
  obtain⟨v3,rfl⟩:=h3.single rfl
  obtain⟨v4,rfl⟩:=h4.single rfl
  obtain⟨u1,rfl⟩:=g1.single rfl
  obtain⟨u2,rfl⟩:=g2.single rfl
  obtain⟨u3,rfl⟩:=g3.single rfl
  exact .cons (.mg rfl h1) (.cons (.mg rfl g1) (.cons (.mg rfl g2) (.cons (.mg rfl g3) (.cons (.mg rfl h3) (.cons (.mg rfl h4) .nil)))))
theorem dO:∀ (τ:Ty) (x:den τ),∀ d∈flat τ x,d.one=true
 | .int _,_,d,h | .bool,_,d,h | .str,_,d,h | .sl _,_,d,h=>by simp[flat]at h; subst h; rfl
 | .nil,_,d,h=>by simp[flat]at h
 | .cons a b,x,d,h=>by
  simp only[flat,List.mem_append]at h
  rcases h with h | h
  ·exact dO a x.1 d h
  ·exact dO b x.2 d h
 | .expr,x,d,h=>by simp[flat]at h; rcases h with rfl | rfl | rfl | rfl | rfl | rfl<;>rfl
theorem ZS:∀ (τ:Ty) (x:den τ),(flat τ x).length=τ.size
 | .int _,_ | .bool,_ | .str,_ | .sl _,_ | .nil,_ | .expr,_=>rfl
 | .cons a b,x=>by simp[flat,Ty.size,ZS a,ZS b]
theorem Yg{v:Value}(h:v.oneCell'=true):v.cells = #[v]:=by
 cases v<;>first | rfl | cases h
theorem j9{d:D}{v:Value}(h:RD κ d v)(ht:d.uM=false):qH κ (qg d) v.cells.toList:=by
 cases h with
 | zI τ x cs h=>rw[Qf h.len h.one]; exact oD h
 | agg l vs hl ho h=>exact⟨by simpa[Value.cells,qg]using hl,λi h1 h2=>by simp at h2 ⊢; exact h i h1 h2⟩
 | yH=>cases ht
 | xi e a=>exact .one (.xi e a)
 | tight e l ne blk off f vT wm h hc=>exact .one (.tight e l ne blk off f vT wm h hc)
 | xy=>exact .one .xy
 | y9=>exact .one .y9
 | qX=>exact .one .qX
 | vW=>exact .one .vW
 | vX=>exact .one .vX
 | rZ v h=>rw[Yg h]; exact .one (.rZ v h)
 | cj T=>exact .one (.cj T)
 | cq b T d hd=>exact .one (.cq b T d hd)
 | cE b T blk n d hd h=>exact .one (.cE b T blk n d hd h)
 | ptr b off blk n d hd h=>exact .one (.ptr b off blk n d hd h)
 | qU τ x cs blk off wm h hc=>exact .one (.qU τ x cs blk off wm h hc)
 | uk b qB e idx off blk o hb h=>exact .one (.uk b qB e idx off blk o hb h)
 | ms b qB e off len cap a hb vc ha nN h=>exact .one (.ms b qB e off len cap a hb vc ha nN h)
 | qN f l vs hl h=>rw[Vs]; exact .one (.qN f l vs hl h)
 | iface t d v h=>exact .one (.iface t d v h)
theorem jd{d:D}{v:Value}(h:RD κ d v):∀ x∈qg d,x.one=true:=by
 cases h with
 | zI τ x cs h=>exact dO τ x
 | agg l vs hl ho h=>exact ho
 | yH=>nofun
 | _=>intro x hx; simp[qg]at hx; subst hx; rfl
theorem RD.Wp{d:D}{v:Value}(h:RD κ d v)(ho:d.one=true):v.oneCell'=true:=by
 cases h with
 | zI τ x cs h =>
  have ht:τ.isAgg=false:=by simpa[D.one]using ho
  obtain⟨v,rfl⟩:=h.single ht
  rw[Uq ht]
  exact h.one v (by simp)
 | agg=>cases ho
 | yH=>cases ho
 | rZ v h=>exact h
 | qN f l vs=>exact S1 f vs
 | _=>rfl
theorem qi{a b:Ty}{x:den a}{y:den b}(h:(wP x:Option (den b))=some y):∃ e:a=b,y=e▸x:=by
 unfold wP at h
 grind
theorem y5{τ:Ty}{d:D}{v:Value}{x:den τ}(h:RD κ d v)(hx:eX τ d=some x)(ht:τ.isAgg=false):Rc κ.w κ.ok τ x [v]:=by
 cases h with
 | zI σ y cs h =>
  obtain⟨rfl,rfl⟩:=qi hx
  obtain⟨u,rfl⟩:=h.single ht
  rwa [Uq ht]
 | xi e a=>obtain⟨rfl,rfl⟩:=qi hx; exact .fG e a
 | tight e l ne blk off f vT wm h hc=>obtain⟨rfl,rfl⟩:=qi hx; exact .sl e _ blk off _ f wm (Nat.le_refl _) h hc
 | xy =>
  cases τ with
  | sl e=>simp[eX]at hx; subst hx; exact .fG e none
  | _=>simp[eX]at hx
 | _=>simp[eX]at hx
theorem rJ:∀ (τ:Ty) {ds:List D} {vs:List Value} {x:den τ} {r:List D},qH κ ds vs->jh τ ds=some (x,r) ->
  ∃ c1 c2,vs=c1++c2/\Rc κ.w κ.ok τ x c1/\qH κ r c2
 | .int k,[],_,_,_,_,he | .bool,[],_,_,_,_,he | .str,[],_,_,_,_,he | .sl e,[],_,_,_,_,he | .expr,[],_,_,_,_,he=>by simp[jh]at he
 | .int k,d::r,vs,x,r',h,he=>by
  simp only[jh]at he
  split at he
  ·rename_i y hy; cases he; obtain⟨v,u,rfl,h1,h2⟩:=h.cons_inv; exact⟨[v],u,rfl,y5 h1 hy rfl,h2⟩
  ·cases he
 | .bool,d::r,vs,x,r',h,he=>by
  simp only[jh]at he
  split at he
  ·rename_i y hy; cases he; obtain⟨v,u,rfl,h1,h2⟩:=h.cons_inv; exact⟨[v],u,rfl,y5 h1 hy rfl,h2⟩
  ·cases he
 | .str,d::r,vs,x,r',h,he=>by
  simp only[jh]at he
  split at he
  ·rename_i y hy; cases he; obtain⟨v,u,rfl,h1,h2⟩:=h.cons_inv; exact⟨[v],u,rfl,y5 h1 hy rfl,h2⟩
  ·cases he
 | .sl e,d::r,vs,x,r',h,he=>by
  simp only[jh]at he
  split at he
  ·rename_i y hy; cases he; obtain⟨v,u,rfl,h1,h2⟩:=h.cons_inv; exact⟨[v],u,rfl,y5 h1 hy rfl,h2⟩
  ·cases he
 | .nil,ds,vs,x,r,h,he=>by simp only[jh]at he; cases he; exact⟨[],vs,rfl,.nil,h⟩
 | .cons a b,ds,vs,x,r,h,he=>by
  simp only[jh]at he
  split at he
  ·rename_i y r' hy
   split at he
   ·rename_i z r'' hz
    cases he
    obtain⟨c1,c2,rfl,h1,h2⟩:=rJ a h hy
    obtain⟨c3,c4,rfl,h3,h4⟩:=rJ b h2 hz
    exact⟨c1++c3,c4,by simp,.cons a b y z c1 c3 h1 h3,h4⟩
   ·cases he
  ·cases he
 | .expr,d::r,vs,x,r',h,he=>by
  simp only[jh]at he
  split at he
  ·cases he
  ·rename_i k hk
   split at he
   ·rename_i d1 d2 d3 d4 d5 r0
    split at he
    ·rename_i a n m s l ha hn hm hs hl
     cases he
     obtain⟨v,u,rfl,h0,t0⟩:=h.cons_inv
     obtain⟨v1,u1,rfl,h1,t1⟩:=t0.cons_inv
     obtain⟨v2,u2,rfl,h2,t2⟩:=t1.cons_inv
     obtain⟨v3,u3,rfl,h3,t3⟩:=t2.cons_inv
     obtain⟨v4,u4,rfl,h4,t4⟩:=t3.cons_inv
     obtain⟨v5,u5,rfl,h5,t5⟩:=t4.cons_inv
     refine⟨[v]++(([v1]++([v2]++([v3]++[])))++([v4]++([v5]++[]))),u5,by simp,.expr _ _ _ _ _ ?_,t5⟩
     exact .cons i64 _ k _ _ _ (y5 h0 hk rfl) (.cons Ye _ (a,n,m,()) _ _ _ (.cons .bool _ a _ _ _ (y5 h1 ha rfl) (.cons _ _ n _ _ _ (y5 h2 hn rfl) (.cons _ _ m _ _ _ (y5 h3 hm rfl) .nil)))
      (.cons .str _ s _ _ _ (y5 h4 hs rfl) (.cons _ _ l _ _ _ (y5 h5 hl rfl) .nil)))
    ·cases he
   ·cases he
theorem bX{τ:Ty}{d:D}{v:Value}{x:den τ}(h:RD κ d v)(hx:eG τ d=some x):RD κ (.zI τ x) v:=by
 have key:(∀ σ y,d≠.zI σ y)->(bif (d.isAgg==τ.isAgg) && !d.uM then(match jh τ (qg d)with | some (x,[])=>some x | _=>none)else none)=some x->RD κ (.zI τ x) v:=by
  intro hni hx
  cases hc:(d.isAgg==τ.isAgg) && !d.uM with
  | false=>grind
  | true =>
  rw[hc]at hx
  simp at hc
  obtain⟨z4L,HU⟩:=hc
  split at hx
  ·rename_i y hy
   cases hx
   obtain⟨c1,c2,he,h1,h2⟩:=rJ τ (j9 h HU) hy
   have e2:=h2.qf
   subst e2
   rw[List.append_nil]at he
   have hv:v=pk τ c1:=by
    rw[<- he]
    cases hd:d.isAgg with
    | true =>
     cases d<;>simp[D.isAgg]at hd
     cases h with | agg l vs hl ho h=>simp[pk,D.isAgg]at z4L ⊢; simp[<- z4L,Value.cells]
    | false =>
     simp only[pk,<- z4L]
     cases h<;>first | rfl | (rw[Vs]; rfl) | (rename_i hu; rw[Yg hu]; rfl) | (rename_i σ y cs hc; exact absurd rfl (hni σ y)) | (simp at hd; done) | (simp at HU; done)
   rw[hv]
   exact .zI τ _ c1 h1
  ·cases hx
 cases d with
 | zI σ y=>obtain⟨rfl,rfl⟩:=qi hx; exact h
 | _=>exact key (λ_ _=>nofun) hx
end
end Go.AM
namespace Go.AM
set_option linter.unusedSectionVars false
variable [vU]
def qA(P:Program)(s:Sem Next)(κ:KS)(d:Option D)(zr:St):Prop :=
 ∃ (κ':KS) (n:Next) (v:Value),s.run P κ.w=.ok n κ'.w/\(n=.value v\/(n=.skip/\v=undef))/\κ'.st=zr/\Inv κ'/\Ext κ κ'/\∀ d',d=some d'->RD κ' d' v
section
variable {c:Ctx} {κ:KS}
theorem qA.pure{s:Sem Value}{d:D}{v:Value}(hi:Inv κ)(h:s.run c.P κ.w=.ok v κ.w)(hd:RD κ d v):qA c.P (do Pure.pure (.value (<- s))) κ (some d) κ.st :=
 ⟨κ,.value v,v,by simp[h],.inl rfl,rfl,hi,Ext.refl κ,λ_ he=>by grind⟩
theorem qA.val{d:Option D}{v:Value}(hi:Inv κ)(hd:∀ d',d=some d'->RD κ d' v):qA c.P (Pure.pure (.value v)) κ d κ.st :=
 ⟨κ,.value v,v,rfl,.inl rfl,rfl,hi,Ext.refl κ,hd⟩
theorem dM{t n:Nat}(h:fJ c t=some n):∃ i,c.P.info? t=some i/\i.size=n:=by
 unfold fJ at h
 cases hi:c.P.info? t with
 | none=>grind
 | some i=>grind
theorem run_sizeOf{t n:Nat}(h:fJ c t=some n)(w:World):(sizeOf t).run c.P w=.ok n w:=by
 obtain⟨i,h1,h2⟩:=dM h
 simp[sizeOf,typeInfo,h1,h2]
theorem rm{t:Nat}{b:Bool}(h:BY c t=some b)(w:World):(isAgg t).run c.P w=.ok b w:=by
 unfold BY at h
 cases hu:c.P.underlying t with
 | none=>grind
 | some d =>
  simp only[isAgg,Sem.run_bind,run_underlying hu]
  cases d<;>simp[hu]at h<;>simp[<- h]
theorem vw{t:Nat}{τ:Ty}(h:ko c t τ=true):fJ c t=some τ.size/\BY c t=some τ.isAgg:=by
 unfold ko at h
 simp at h
 obtain⟨⟨_,h1⟩,h2⟩:=h
 constructor
 ·split at h1
  ·rename_i n hn; rw[hn,Nat.eq_of_beq_eq_true h1]
  ·cases h1
 ·grind
theorem Q4{t:Nat}{τ:Ty}(h:ko c t τ=true):z3e τ t:=by
 unfold ko at h
 simp at h
 intro e
 subst e
 exact Nat.eq_of_beq_eq_true h.1.1
omit [vU]in
theorem vE(blk o j:Nat):(⟨blk,o,none⟩:Addr).add j=⟨blk,o+j,none⟩:=by unfold Addr.add; split<;>simp_all
theorem fU{t:Nat}{b:Bool}{n blk o:Nat}{cs:List Value}(ha:BY c t=some b)(hn:fJ c t=some n)(hl:cs.length=n)(h1:b=false->n=1)
  (hc:∀ j v,cs[j]? = some v->κ.w.cell? ⟨blk,o+j,none⟩=some v) :
  (loadVar t ⟨blk,o,none⟩).run c.P κ.w=.ok (if b then .agg cs.toArray else cs.headD undef) κ.w:=by
 simp only[loadVar,Sem.run_bind,rm ha]
 cases b with
 | true =>
  simp[if_true,run_sizeOf hn]
  rw[<- hl,run_loadCells_list κ.w ⟨blk,o,none⟩ cs (λj v hj=>by rw[vE]; exact hc j v hj)]
  simp
 | false =>
  have:=h1 rfl
  subst this
  match cs,hl with
  | [v],_ =>
   have:=hc 0 v rfl
   simp at this
   simp[this]
theorem RH{t:Nat}{τ:Ty}{x:den τ}{cs:List Value}{blk o:Nat}(ht:ko c t τ=true)(h:Rc κ.w κ.ok τ x cs)
  (hc:∀ j v,cs[j]? = some v->κ.w.cell? ⟨blk,o+j,none⟩=some v):(loadVar t ⟨blk,o,none⟩).run c.P κ.w=.ok (pk τ cs) κ.w:=by
 obtain⟨h1,h2⟩:=vw ht
 rw[fU (c:=c) h2 h1 h.len (λe=>Xs e) hc]
 rfl
theorem wV{t:T (Option D)}{st zr:St}{d:Option D}:(zH (.val t) st).leads (d,zr)↔t.leads d/\zr=st:=by
 simp only[zH,T.zG,T.leads]
 grind
theorem lg{k:St->T (Option D)}{st zr:St}{d:Option D}:(zH (.rd k) st).leads (d,zr)↔(k st).leads d/\zr=st:=by
 simp only[zH,T.zG,T.leads]
 grind
theorem ze{st:St}{r:Option D×St}:¬ (zH bad st).leads r:=by nofun
theorem jV{x:D}{st zr:St}{d:Option D}:(zH (AM.val x) st).leads (d,zr)↔d=some x/\zr=st:=by
 rw[AM.val,wV]; simp only[T.leads]; exact⟨λh=>⟨h.1.symm,h.2⟩,λh=>⟨h.1.symm,h.2⟩⟩
theorem vu{p:Prop}{x:D}{st zr:St}{d:Option D}:(zH (.val (.zM p (.ret (some x)))) st).leads (d,zr)↔p/\d=some x/\zr=st:=by
 rw[wV]; simp only[T.leads]
 grind
theorem Uz{x:Option D}{st zr:St}{d:Option D}(h:(zH (z1Z x) st).leads (d,zr)):∃ y,x=some y/\d=some y/\zr=st:=by
 cases x with
 | none=>exact absurd h ze
 | some y=>rw[z1Z,wV]at h; exact⟨y,rfl,h.1.symm,h.2⟩
theorem WN:∀ (τ:Ty) (x:den τ) {cs:List Value},qH κ (flat τ x) cs->Rc κ.w κ.ok τ x cs
 | .int k,x,cs,h=>by obtain⟨v,r,rfl,h1,h2⟩:=h.cons_inv; rw[h2.qf]; exact h1.vi rfl
 | .bool,x,cs,h=>by obtain⟨v,r,rfl,h1,h2⟩:=h.cons_inv; rw[h2.qf]; exact h1.vi rfl
 | .str,x,cs,h=>by obtain⟨v,r,rfl,h1,h2⟩:=h.cons_inv; rw[h2.qf]; exact h1.vi rfl
 | .sl e,x,cs,h=>by obtain⟨v,r,rfl,h1,h2⟩:=h.cons_inv; rw[h2.qf]; exact h1.vi rfl
 | .nil,x,cs,h=>by rw[h.qf]; exact .nil
 | .cons a b,x,cs,h=>by
  obtain⟨c1,c2,rfl,h1,h2⟩:=qH.Dl h
  exact .cons a b x.1 x.2 c1 c2 (WN a x.1 h1) (WN b x.2 h2)
 | .expr,.mk k (a,n,m,()) s l,cs,h=>by
  obtain⟨v,u,rfl,h0,t0⟩:=h.cons_inv
  obtain⟨v1,u1,rfl,h1,t1⟩:=t0.cons_inv
  obtain⟨v2,u2,rfl,h2,t2⟩:=t1.cons_inv
  obtain⟨v3,u3,rfl,h3,t3⟩:=t2.cons_inv
  obtain⟨v4,u4,rfl,h4,t4⟩:=t3.cons_inv
  obtain⟨v5,u5,rfl,h5,t5⟩:=t4.cons_inv
  rw[t5.qf]
  exact .expr _ _ _ _ _ (.cons i64 _ k _ _ _ (h0.vi rfl) (.cons Ye _ (a,n,m,()) _ _ _ (.cons .bool _ a _ _ _ (h1.vi rfl) (.cons (.sl u32) (.cons (.sl u32) .nil) n (m,()) [v2] ([v3]++[]) (h2.vi rfl) (.cons (.sl u32) .nil m () [v3] [] (h3.vi rfl) .nil)))
      (.cons .str _ s _ _ _ (h4.vi rfl) (.cons (.sl .expr) .nil l () [v5] [] (h5.vi rfl) .nil))))
theorem FH{t:Nat}{d r:D}{off:Nat}{vs:List Value}(h:DD c t d off=some r)(hd:qH κ (qg d) vs)(nM:∀ x∈qg d,x.one=true) :
  (∃ n,BY c t=some true/\fJ c t=some n/\off+n<=vs.length/\RD κ r (.agg ((vs.drop off).take n).toArray)) \/
  (∃ v,BY c t=some false/\vs[off]? = some v/\RD κ r v):=by
 unfold DD at h
 split at h
 ·rename_i ha
  split at h
  ·cases h
  ·rename_i n hn
   refine .inl ⟨n,ha,hn,?_⟩
   cases hb:(Nat.beq off 0&&Nat.beq n (qg d).length&&d.zaP)with
   | true =>
    rw[hb]at h
    simp at h
    subst h
    simp only[Bool.and_eq_true]at hb
    obtain⟨⟨h1,h2⟩,h3⟩:=hb
    have e1:off=0:=Nat.eq_of_beq_eq_true h1
    have e2:n=(qg d).length:=Nat.eq_of_beq_eq_true h2
    subst e1
    have hl:=hd.1
    rw[e2,hl]
    refine⟨by omega,?_⟩
    simp
    cases d with
    | zI τ x =>
     have:=RD.zI τ x vs (WN τ x hd)
     simpa[pk,show τ.isAgg=true from h3]using this
    | agg l=>exact .agg l vs hl nM hd.2
    | _=>cases h3
   | false =>
    rw[hb]at h
    split at h
    ·rename_i l hl
     cases h
     unfold JV at hl
     cases hle:Nat.ble (off+n) (qg d).length with
     | false=>grind
     | true =>
      rw[hle]at hl
      cases hl
      have J8:=Nat.le_of_ble_eq_true hle
      refine⟨by rw[<- hd.1]; exact J8,?_⟩
      have ht:=(hd.drop off).take n
      exact .agg _ _ ht.1 (λx hx=>nM x (List.mem_of_mem_drop (List.mem_of_mem_take hx))) ht.2
    ·cases h
 ·rename_i ha
  obtain⟨v,h1,h2⟩:=hd.get h
  grind
 ·cases h
theorem U5{t:Nat}{d r:D}{off blk:Nat}{vs:List Value}(base:Nat)(h:DD c t d off=some r)(hd:qH κ (qg d) vs)(nM:∀ x∈qg d,x.one=true)
  (hc:∀ j v,vs[j]? = some v->κ.w.cell? ⟨blk,base+j,none⟩=some v):∃ v,(loadVar t ⟨blk,base+off,none⟩).run c.P κ.w=.ok v κ.w/\RD κ r v:=by
 rcases FH h hd nM with⟨n,ha,hn,hle,hr⟩ | ⟨v,ha,hv,hr⟩
 ·refine⟨_,?_,hr⟩
  rw[fU (c:=c) (b:=true) (cs:=(vs.drop off).take n) ha hn (by grind) nofun]
  ·simp
  ·grind
 ·refine⟨v,?_,hr⟩
  simp only[loadVar,Sem.run_bind,rm ha]
  simp[hc off v hv]
theorem Inv.IN{κ:KS}(hi:Inv κ){b:Nat}{x:kE}(h:κ.st[b]? = some x):dR κ b x:=hi.blk b x h
theorem pT{blk:Nat}{cs:Array Value}{t:TypeId}{fz:Nat×Nat}(h:κ.w.heap[blk]? = some (.cells cs t fz))(o:Nat):κ.w.cell? ⟨blk,o,none⟩=cs[o]? := by
 simp[World.cell?,h]
theorem My{t:Nat}{x:Option D}{v:Value}{d:Option D}{zr:St}(hi:Inv κ)(hx:∀ y,x=some y->RD κ y v)(h:(zH (UO c t x) κ.st).leads (d,zr)) :
  qA c.P (do Pure.pure (.value (<- Instr.loadAt t v))) κ d zr:=by
 unfold UO at h
 split at h
 ·rename_i τ y
  cases ht:ko c t τ with
  | false=>rw[ht]at h; exact absurd h ze
  | true =>
   rw[ht,cond_true,jV]at h
   obtain⟨rfl,rfl⟩:=h
   cases hx _ rfl with
   | qU _ _ cs blk off wm hr hc =>
    exact qA.pure hi (by simp[Instr.loadAt,Instr.sureAddr,RH ht hr hc]) (.zI τ y cs hr)
 ·rename_i b off
  rw[lg]at h
  obtain⟨h,rfl⟩:=h
  split at h
  ·rename_i d0 hb
   split at h
   ·rename_i r hr
    cases h
    cases hx _ rfl with
    | ptr _ _ blk n d1 hd hp =>
     obtain⟨iQ,n',cs,T,g1,g2,g3,g4,g5⟩:=hi.blk b _ hb
     rw[hp]at g1
     cases g1
     obtain⟨v,h1,h2⟩:=U5 (c:=c) (blk:=blk) 0 hr g4 g5.1 (λj v hj=>by rw[pT g2]; simpa using hj)
     rw[Nat.zero_add]at h1
     exact qA.pure hi (by simp[Instr.loadAt,Instr.sureAddr,h1]) h2
   ·exact h.elim
  ·exact h.elim
 ·rename_i b qB e idx off
  rw[lg]at h
  obtain⟨h,rfl⟩:=h
  split at h
  ·rename_i jK e' xs hb
   cases he:decide (e'=e)with
   | false=>rw[he]at h; exact h.elim
   | true =>
    rw[he,cond_true]at h
    have On:e'=e:=of_decide_eq_true he
    subst On
    obtain⟨⟨rfl,qy⟩,h⟩:=h
    split at h
    ·rename_i r hr
     cases h
     cases hx _ rfl with
     | uk _ _ _ _ _ blk o hold hp =>
      obtain⟨n,p1,rfl⟩:=hp xs hb qy
      obtain⟨uU,⟨U4,_⟩ | ⟨iQ,n',cs,T,g1,g2,g3,g4,gr,f,g5⟩⟩:=hi.blk b _ hb
      ·grind
      ·rw[p1]at g1
       cases g1
       have hg:xs.getD idx (zj e')=xs[idx]:=by simp[List.getD,List.getElem?_eq_getElem qy]
       rw[hg]at hr
       obtain⟨k1,k2⟩:=g5 idx qy
       obtain⟨v,h1,h2⟩:=U5 (c:=c) (blk:=blk) (idx*e'.size) hr (oD k1) (dO _ _) (λj v hj=>by rw[pT g2]; exact k2 j v hj)
       exact qA.pure hi (by simp[Instr.loadAt,Instr.sureAddr,h1]) h2
    ·exact h.elim
  ·exact h.elim
 ·exact absurd h ze
end
end Go.AM
namespace Go.AM
set_option linter.unusedSectionVars false
variable [vU]
section
variable {c:Ctx} {κ:KS}
theorem Ym{s f o n:Nat}(h:Wx c s f=some (o,n)):∃ fs fd,c.P.underlying s=some (.struct fs)/\fs[f]? = some fd/\fJ c fd.type=some n/\n≠0/\fd.offset=o:=by
 unfold Wx at h
 split at h
 ·rename_i fs hu
  split at h
  ·rename_i fd hf
   split at h
   ·rename_i m hm
    cases hb:Nat.beq m 0 with
    | true=>grind
    | false =>
     rw[hb]at h
     cases h
     refine⟨fs,fd,hu,hf,hm,?_,rfl⟩
     intro e
     subst e
     cases hb
   ·cases h
  ·cases h
 ·cases h
theorem oe{s f o n blk p:Nat}(h:Wx c s f=some (o,n))(w:World) :
  (Instr.fieldAt s (.pointer (some ⟨blk,p,none⟩)) f).run c.P w=.ok (.pointer (some ⟨blk,p+o,none⟩)) w:=by
 obtain⟨fs,fd,h1,h2,h3,h4,h5⟩:=Ym h
 simp[Instr.fieldAt,run_underlying h1,h2,Instr.sureAddr,fieldPlace,run_sizeOf h3,h4,vE]
theorem Vy:∀ (τ:Ty) (x:den τ) (n:Nat) {d:D} {o s:Nat} {cs:List Value},ov τ x n=some (d,o,s)->Rc κ.w κ.ok τ x cs ->
  ∃ (σ:Ty) (y:den σ) (c2:List Value),d=.qU σ y/\Rc κ.w κ.ok σ y c2/\s=σ.size/\∀ j v,c2[j]? = some v->cs[o+j]? = some v
 | .cons a b,x,0,d,o,s,cs,h,hr=>by
  simp only[ov]at h
  cases h
  obtain⟨c1,c2,rfl,h1,h2⟩:=hr.cons_inv
  grind
 | .cons a b,x,n+1,d,o,s,cs,h,hr=>by
  simp only[ov]at h
  split at h
  ·rename_i d' o' s' h'
   cases h
   obtain⟨c1,c2,rfl,h1,h2⟩:=hr.cons_inv
   obtain⟨σ,y,c3,e1,e2,e3,e4⟩:=Vy b x.2 n h' h2
   refine⟨σ,y,c3,e1,e2,e3,λj v hj => ?_⟩
   have:=h1.len
   grind
  ·cases h
 | .expr,.mk k (a,n,m,()) s l,i,d,o,z,cs,h,hr=>by
  obtain⟨c1,r1,rfl,h1,t1⟩:=hr.BB.cons_inv
  obtain⟨c2,r2,rfl,h2,t2⟩:=t1.cons_inv
  obtain⟨c3,r3,rfl,h3,t3⟩:=t2.cons_inv
  obtain⟨c4,r4,rfl,h4,t4⟩:=t3.cons_inv
  have e4:=t4.qf
  subst e4
  have l2:c2.length=3:=h2.len
  obtain⟨v1,rfl⟩:=h1.single rfl
  obtain⟨v3,rfl⟩:=h3.single rfl
  obtain⟨v4,rfl⟩:=h4.single rfl
  match i,h with
  | 0,h=>simp only[ov]at h; cases h; exact⟨i64,_,_,rfl,h1,rfl,λj v hj=>by match j,hj with | 0,hj=>simpa using hj⟩
  | 1,h => 
   simp only[ov]at h; cases h
   refine⟨Ye,_,_,rfl,h2,rfl,λj v hj => ?_⟩
   grind
  | 2,h =>
   simp only[ov]at h; cases h
   refine⟨.str,_,_,rfl,h3,rfl,λj v hj => ?_⟩
   grind
  | 3,h =>
   simp only[ov]at h; cases h
   refine⟨.sl .expr,_,_,rfl,h4,rfl,λj v hj => ?_⟩
   match j,hj with
   | 0,hj =>
    simp only[List.cons_append,List.nil_append,Nat.add_zero,List.getElem?_cons_succ]
    rw[List.getElem?_append_right (by omega),l2]; simpa using hj
  | n+4,h=>simp[ov]at h
 | .int _,_,_,_,_,_,_,h,_ | .bool,_,_,_,_,_,_,h,_ | .str,_,_,_,_,_,_,h,_ | .sl _,_,_,_,_,_,_,h,_ | .nil,_,_,_,_,_,_,h,_=>by simp[ov]at h
theorem U9{s f:Nat}{x:Option D}{v:Value}{d:Option D}{zr:St}(hi:Inv κ)(hx:∀ y,x=some y->RD κ y v)(h:(zH (o8 c s f x) κ.st).leads (d,zr)) :
  qA c.P (do Pure.pure (.value (<- Instr.fieldAt s v f))) κ d zr:=by
 unfold o8 at h
 split at h
 ·exact absurd h ze
 ·rename_i o n hf
  split at h
  ·rename_i τ y
   split at h
   ·rename_i d' o' n' GX
    cases hb:Nat.beq o o'&&Nat.beq n n' with
    | false=>rw[hb]at h; exact absurd h ze
    | true =>
     rw[hb,cond_true,jV]at h
     obtain⟨rfl,rfl⟩:=h
     simp only[Bool.and_eq_true]at hb
     have e1:o=o':=Nat.eq_of_beq_eq_true hb.1
     subst e1
     cases hx _ rfl with
     | qU _ _ cs blk off wm hr hc =>
      obtain⟨σ,z,c2,rfl,g1,g2,g3⟩:=Vy τ y f GX hr
      exact qA.pure hi (oe hf κ.w) (.qU σ z c2 blk (off+o) wm g1 λj u hj=>by grind)
   ·exact absurd h ze
  ·rename_i b off
   obtain⟨rfl,rfl⟩:=h
   cases hx _ rfl with
   | ptr _ _ blk n d hd hp=>exact qA.pure hi (oe hf κ.w) (.ptr b (off+o) blk n d hd hp)
  ·rename_i b qB e idx off
   obtain⟨rfl,rfl⟩:=h
   cases hx _ rfl with
   | uk _ _ _ _ _ blk p hold hp =>
    refine qA.pure hi (oe hf κ.w) (.uk b qB e idx (off+o) blk (p+o) hold λxs h1 h2 => ?_)
    grind
  ·exact absurd h ze
theorem Dg{s f:Nat}{x:Option D}{v:Value}{d:Option D}{zr:St}(hi:Inv κ)(hx:∀ y,x=some y->RD κ y v)(h:(zH (GC c s f x) κ.st).leads (d,zr)) :
  qA c.P (do Pure.pure (.value (<- Instr.field s v f))) κ d zr:=by
 unfold GC at h
 split at h
 ·rename_i fs hu
  split at h
  ·rename_i fd hf
   split at h
   ·rename_i y
    obtain⟨r,hr,rfl,rfl⟩:=Uz h
    cases Sb:y.cS with
    | false=>grind
    | true =>
    rw[Sb,cond_true]at hr
    have hy:=hx _ rfl
    have ⟨vs,hv,hvs⟩:∃ vs,v=.agg vs/\qH κ (qg y) vs.toList:=by
     have hfd:=j9 hy (by cases y<;>simp[D.cS,D.uM]at Sb ⊢)
     cases hy<;>simp[D.cS]at Sb
     ·rename_i τ z cs hc
      exact⟨cs.toArray,by simp[pk,Sb],by simpa[pk,Sb,Value.cells]using hfd⟩
     ·rename_i l vs hl ho hh
      exact⟨vs.toArray,rfl,by simpa[Value.cells]using hfd⟩
    subst hv
    rcases FH hr hvs (jd hy)with⟨n,ha,hn,hle,hrd⟩ | ⟨u,ha,hu',hrd⟩
    ·refine qA.pure hi ?_ hrd
     simp only[Instr.field,Sem.run_bind,run_underlying hu,Result.andThen_ok,hf,asAgg,Sem.run_pure,part,rm ha,if_true,run_sizeOf hn]
     congr 2
     grind
    ·refine qA.pure hi ?_ hrd
     have:vs[fd.offset]? = some u:=by simpa using hu'
     simp[Instr.field,run_underlying hu,hf,asAgg,part,rm ha,this]
   ·exact absurd h ze
  ·exact absurd h ze
 ·exact absurd h ze
theorem uq{t e:Nat}(h:fN c t=some e):c.P.underlying t=some (.slice e):=by
 unfold fN at h
 grind
theorem ue{x:Option D}{k:IntKind}{n:Int}{v:Value}(h:asInt x=some (k,n))(hx:∀ y,x=some y->RD κ y v):v=.int k n:=by
 unfold asInt at h
 split at h
 ·cases h; exact(hx _ rfl).yk
 ·cases h
theorem nJ{x:Option D}{s:zf}{v:Value}(h:Vg x=some s)(hx:∀ y,x=some y->RD κ y v):v=.string ⟨s.toArray⟩:=by
 unfold Vg at h
 split at h
 ·cases h; exact(hx _ rfl).wG
 ·cases h
theorem rk{x:Option D}{b:Bool}{v:Value}(h:asBool x=some b)(hx:∀ y,x=some y->RD κ y v):v=.bool b:=by
 unfold asBool at h
 split at h
 ·cases h; exact(hx _ rfl).jT
 ·cases h
theorem WB{α:Type}{l:List α}{i:Nat}(h:i<l.length)(d:α):List.getD l i d=l[i]:=by grind
theorem ou{a:Ty}(x:den a):(wP x:Option (den a))=some x:=by simp[wP]
theorem Ht{w:World}{ok:Nat->Prop}:∀ (τ:Ty) (e:Ty) (n:Nat) (x:den τ) (cs:List Value) (i:Nat),Hy τ=some (e,n)->Rc w ok τ x cs->i<n ->
  ∃ c,Rc w ok e (pn e τ x i) c/\∀ j v,c[j]? = some v->cs[i*e.size+j]? = some v
 | .cons a b,e,n,x,cs,i,ht,hr,hi=>by
  obtain⟨c1,c2,rfl,h1,h2⟩:=hr.cons_inv
  have key:∀ m,(b=.nil/\m=0\/Hy b=some (a,m))->i<m+1->∃ c,Rc w ok a (pn a (.cons a b) x i) c/\∀ j v,c[j]? = some v->(c1++c2)[i*a.size+j]? = some v:=by
   intro m hm hi
   cases i with
   | zero =>
    refine⟨c1,by simp only[pn,ou]; exact h1,λj v hj => ?_⟩
    grind
   | succ i =>
    rcases hm with⟨rfl,rfl⟩ | hm
    ·omega
    ·obtain⟨c,g1,g2⟩:=Ht b a m x.2 c2 i hm h2 (by omega)
     refine⟨c,g1,λj v hj => ?_⟩
     have hl:=h1.len
     grind
  unfold Hy at ht
  split at ht
  ·cases ht; exact key 0 (.inl ⟨rfl,rfl⟩) (by omega)
  ·grind
 | .int _,_,_,_,_,_,ht,_,_=>by cases ht
 | .bool,_,_,_,_,_,ht,_,_=>by cases ht
 | .str,_,_,_,_,_,ht,_,_=>by cases ht
 | .sl _,_,_,_,_,_,ht,_,_=>by cases ht
 | .nil,_,_,_,_,_,ht,_,_=>by cases ht
 | .expr,_,_,_,_,_,ht,_,_=>by cases ht
theorem Md{t n e:Nat}(h:z52 c t=some (n,e)):c.P.underlying t=some (.array n e):=by
 unfold z52 at h
 grind
theorem Jr{t:Nat}{x i:Option D}{k:IntKind}{n:Int}{v u:Value}{d:Option D}{zr:St}(hi:Inv κ)(hx:∀ y,x=some y->RD κ y v)(hy:∀ y,i=some y->RD κ y u)(Xr:asInt i=some (k,n))
  (h:(zH (U8 c t x n) κ.st).leads (d,zr)):qA c.P (do Pure.pure (.value (<- Instr.indexAt t v u))) κ d zr:=by
 have hu':=ue Xr hy
 subst hu'
 unfold U8 at h
 split at h
 ·rename_i m et τ y ha
  have hu:=Md ha
  split at h
  ·rename_i e m' IW
   cases ht:ko c et e&&Nat.beq m m' with
   | false=>rw[ht]at h; exact absurd h ze
   | true =>
    rw[ht,cond_true,vu]at h
    simp only[Bool.and_eq_true]at ht
    have:=Nat.eq_of_beq_eq_true ht.2
    subst this
    obtain⟨⟨h0,h1⟩,rfl,rfl⟩:=h
    obtain⟨hs,_⟩:=vw ht.1
    cases hx _ rfl with
    | qU _ _ cs blk off wm CC hc =>
     obtain⟨cc,g1,g2⟩:=Ht τ e m y cs n.toNat IW CC (by omega)
     refine qA.pure hi ?_ (.qU e _ cc blk (off+n.toNat*e.size) wm g1 λj v hj=>by grind)
     simp[Instr.indexAt,asIntOf,run_underlying hu,h0,h1,run_sizeOf hs,vE,Instr.sureAddr]
  ·exact absurd h ze
 ·exact absurd h ze
theorem Ve{t:Nat}{x i:Option D}{v u:Value}{d:Option D}{zr:St}(hi:Inv κ)(hx:∀ y,x=some y->RD κ y v)(hy:∀ y,i=some y->RD κ y u)
  (h:(zH (pA c t x i) κ.st).leads (d,zr)):qA c.P (do Pure.pure (.value (<- Instr.indexAt t v u))) κ d zr:=by
 unfold pA at h
 split at h
 ·rename_i k n het Xr
  exact Jr hi hx hy Xr h
 ·rename_i et k n het Xr
  have hu:=uq het
  have hu':=ue Xr hy
  subst hu'
  split at h
  ·rename_i e l
   cases ht:ko c et e with
   | false=>rw[ht]at h; exact absurd h ze
   | true =>
    rw[ht,cond_true,vu]at h
    obtain⟨⟨h0,h1⟩,rfl,rfl⟩:=h
    obtain⟨hs,_⟩:=vw ht
    have qy:n.toNat<List.length l:=by omega
    rcases((hx _ rfl).vi rfl).QV with⟨rfl,_⟩ | ⟨blk,off,cap,f,he,wm,vc,hh,hc⟩
    ·cases qy
    ·cases he
     rw[WB qy]
     refine qA.pure hi ?_ (.qU e _ (f n.toNat) blk (off+n.toNat*e.size) wm (hh _ qy) λj v hj=>hc _ qy j v hj)
     simp[Instr.indexAt,asIntOf,run_underlying hu,h0,h1,run_sizeOf hs,vE]
  ·rename_i e l ne
   cases ht:ko c et e with
   | false=>rw[ht]at h; exact absurd h ze
   | true =>
    rw[ht,cond_true,vu]at h
    obtain⟨⟨h0,h1⟩,rfl,rfl⟩:=h
    obtain⟨hs,_⟩:=vw ht
    have qy:n.toNat<List.length l:=by omega
    cases hx _ rfl with
    | xi=>cases qy
    | tight _ _ _ blk off f vT wm hh hc =>
     rw[WB qy]
     refine qA.pure hi ?_ (.qU e _ (f n.toNat) blk (off+n.toNat*e.size) wm (hh _ qy) λj v hj=>hc _ qy j v hj)
     simp[Instr.indexAt,asIntOf,run_underlying hu,h0,h1,run_sizeOf hs,vE]
  ·rename_i b qB e off len
   cases ht:ko c et e with
   | false=>rw[ht]at h; exact absurd h ze
   | true =>
    rw[ht,cond_true,vu]at h
    obtain⟨⟨h0,h1⟩,rfl,rfl⟩:=h
    obtain⟨hs,_⟩:=vw ht
    cases hx _ rfl with
    | ms _ _ _ _ _ cap a hold vc ha nN hm =>
     cases a with
     | none=>grind
     | some p =>
      have hp:=nN p rfl
      obtain⟨blk,o,sp⟩:=p
      subst hp
      refine qA.pure hi (v:=.pointer (some ⟨blk,o+n.toNat*e.size,none⟩)) ?_ (.uk b qB e (off+n.toNat) 0 blk _ hold λxs hb qy => ?_)
      ·simp[Instr.indexAt,asIntOf,run_underlying hu,h0,h1,run_sizeOf hs,vE]
      ·obtain⟨hle,⟨_,_,hv,_⟩ | ⟨iQ,n',o',E4,h3,h4,h5,h6,h7⟩⟩:=hm xs hb
       ·cases hv
       ·grind
  ·exact absurd h ze
 ·exact absurd h ze
theorem Mh(s:zf){i:Nat}(h:i<s.length):(⟨s.toArray⟩:ByteArray)[i]? = some s[i]:=by
 have uU:(⟨s.toArray⟩:ByteArray).size=s.length:=rfl
 rw[getElem?_pos _ _ (by grind)]
 rfl
theorem DS{t:Nat}{x i:Option D}{v u:Value}{d:Option D}{zr:St}(hi:Inv κ)(hx:∀ y,x=some y->RD κ y v)(hy:∀ y,i=some y->RD κ y u)
  (h:(zH (GM c t x i) κ.st).leads (d,zr)):qA c.P (do Pure.pure (.value (<- Instr.index t v u))) κ d zr:=by
 unfold GM at h
 split at h
 ·rename_i k n s Xr hs hu
  have hu':=ue Xr hy
  subst hu'
  have hv:=nJ hs hx
  subst hv
  obtain⟨⟨h0,h1⟩,rfl,rfl⟩:=h
  have qy:n.toNat<s.length:=by omega
  rw[WB qy]
  exact qA.pure hi (by simp[Instr.index,asIntOf,run_underlying hu,h0,Mh s qy]) RD.int
 ·exact absurd h ze
def X7(κ:KS):Option (Option D)->Option Value->Prop
 | none,none=>True
 | some x,some v=>∀ y,x=some y->RD κ y v
 | _,_=>False
theorem UE{d n:Int}{x:Option (Option D)}{v:Option Value}(h:Mt d x=some n)(hx:X7 κ x v):(x=none/\v=none/\n=d)\/(x.isSome/\∃ k,v=some (.int k n)):=by
 cases x with
 | none=>cases v with
  | none=>exact .inl ⟨rfl,rfl,by simpa[Mt]using h.symm⟩
  | some v=>exact hx.elim
 | some x=>cases v with
  | none=>exact hx.elim
  | some v =>
   simp only[Mt]at h
   split at h
   ·rename_i k i hk; cases h; exact .inr ⟨rfl,k,by rw[ue hk hx]⟩
   ·cases h
end
end Go.AM
namespace Go.AM
set_option linter.unusedSectionVars false
variable [vU]
section
variable {c:Ctx} {κ:KS}
theorem jR{P:Program}{isS:Bool}{len cap:Nat}{lo hi mx:Option Value}{l h:Int}{m:Nat}
  (hl:(lo=none/\l=0)\/∃ k,lo=some (.int k l)) (hh:(hi=none/\mx=none/\h=len)\/∃ k,hi=some (.int k h))
  (hm:(mx=none/\m=cap)\/∃ k,mx=some (.int k m)) (h0:0<=l) (h1:l<=h) (h2:h<=m) (h3:m<=cap) (w:World) :
  (Instr.sliceBounds isS len cap lo hi mx).run P w=.ok (l.toNat,h.toNat,m) w:=by
 have hh0:(0:Int)<=h:=by omega
 have W8:l<=(h.toNat:Int):=by omega
 rcases hl with⟨rfl,rfl⟩ | ⟨k1,rfl⟩<;>rcases hm with⟨rfl,rfl⟩ | ⟨k3,rfl⟩<;>rcases hh with⟨rfl,hx,rfl⟩ | ⟨k2,rfl⟩ <;>
  first
   | (cases hx; done)
   | (simp[Instr.sliceBounds,run_sliceBound, *]; done)
   | (simp[Instr.sliceBounds,run_sliceBound, *]; rw[run_sliceBound _ _ _ _ _ h0 W8]; rfl)
theorem Cq(s:zf)(l h:Int):(⟨s.toArray⟩:ByteArray).extract l.toNat h.toNat=⟨(vv l h s).toArray⟩:=by
 apply ByteArray.ext
 simp[vv,List.drop_take]
theorem UP{n:Int}{x:Option (Option D)}{v:Option Value}(h:Mt 0 x=some n)(hx:X7 κ x v):(v=none/\n=0)\/∃ k,v=some (.int k n):=by
 rcases UE h hx with⟨_,h1,h2⟩ | ⟨_,h1⟩
 ·grind
 ·grind
theorem Gp{d n:Int}{x:Option (Option D)}{v:Option Value}(h:Mt d x=some n)(hx:X7 κ x v):(v=none/\n=d)\/∃ k,v=some (.int k n):=by
 rcases UE h hx with⟨_,h1,h2⟩ | ⟨_,h1⟩
 ·grind
 ·grind
theorem Za{v:Option Value}(h:X7 κ none v):v=none:=by cases v with | none=>rfl | some _=>exact h.elim
theorem pW{e:Ty}{l:List (den e)}{lo hi:Int}(h0:0<=lo)(h1:lo<=hi)(h2:hi<=(l.length:Int)) :
  (vr lo hi l).length=hi.toNat-lo.toNat/\∀ i (J6:i<(vr lo hi l).length),∃ h:lo.toNat+i<l.length,(vr lo hi l)[i]=l[lo.toNat+i]:=by
 have hlen:(vr lo hi l).length=hi.toNat-lo.toNat:=by simp[vr]; omega
 refine⟨hlen,λi J6=>⟨by omega,?_⟩⟩
 simp[vr]
theorem E9{e:Ty}{l:List (den e)}{lo hi:Int}{blk off cap m:Nat}{f:Nat->List Value}(wm:κ.ok blk)
  (hh:∀ i (hi:i<l.length),Rc κ.w κ.ok e l[i] (f i)) (hc:∀ i,i<l.length->∀ j v,(f i)[j]? = some v->κ.w.cell? ⟨blk,off+i*e.size+j,none⟩=some v)
  (h0:0<=lo) (h1:lo<=hi) (h2:hi<=(l.length:Int)) (hm:hi<=(m:Int)) (vc:m<=cap) :
  (∀ i (J6:i<(vr lo hi l).length),Rc κ.w κ.ok e (vr lo hi l)[i] (f (lo.toNat+i))) /\
  (∀ i,i<(vr lo hi l).length->∀ j v,(f (lo.toNat+i))[j]? = some v ->
   κ.w.cell? ⟨blk,(if m=lo.toNat then off else off+lo.toNat*e.size)+i*e.size+j,none⟩=some v)/\(vr lo hi l).length<=m-lo.toNat:=by
 obtain⟨hl,hg⟩:=pW h0 h1 h2
 refine⟨λi J6 => ?_,λi J6 j v hj => ?_,by omega⟩
 ·obtain⟨h3,h4⟩:=hg i J6
  rw[h4]; exact hh _ h3
 ·obtain⟨h3,h4⟩:=hg i J6
  have:=hc _ h3 j v hj
  rw[if_neg (by omega)]
  rw[Nat.add_mul,<- Nat.add_assoc]at this
  exact this
theorem DT{t:Nat}{x:Option D}{lo hi mx:Option (Option D)}{v:Value}{vl vh vm:Option Value}{d:Option D}{zr:St}(hI:Inv κ)(hx:∀ y,x=some y->RD κ y v)
  (hlo:X7 κ lo vl) (hhi:X7 κ hi vh) (hmx:X7 κ mx vm)
  (h:(zH (Gt c t x lo hi mx) κ.st).leads (d,zr)):qA c.P (do Pure.pure (.value (<- Instr.sliceAt t v vl vh vm))) κ d zr:=by
 unfold Gt at h
 split at h
 ·rename_i s
  obtain⟨s,rfl⟩:∃ s':zf,s=s':=⟨s,rfl⟩
  split at h
  ·rename_i l hh hu hl hh'
   rw[vu]at h
   obtain⟨⟨h0,h1,h2⟩,rfl,rfl⟩:=h
   have hv:=(hx _ rfl).wG
   subst hv
   have e1:=Za hmx
   subst e1
   refine qA.pure hI ?_ RD.str
   have uU:(⟨s.toArray⟩:ByteArray).size=s.length:=rfl
   have hb:=jR (P:=c.P) (isS:=false) (len:=s.length) (cap:=s.length) (mx:=none) (m:=s.length) (UP hl hlo)
    (eP (Gp hh' hhi) (λh=>⟨h.1,rfl,h.2⟩) id) (.inl ⟨rfl,rfl⟩) h0 h1 h2 (Nat.le_refl _) κ.w
   simp only[Instr.sliceAt,Sem.run_bind,run_underlying hu,Result.andThen_ok,Instr.slice,Option.isSome_none,Bool.false_eq_true,if_false,uU,hb,Cq]
   rfl
  ·exact absurd h ze
 ·rename_i e s
  split at h
  ·rename_i et l hh het hl hh'
   have hu:=uq het
   cases ht:ko c et e with
   | false=>rw[ht]at h; exact absurd h ze
   | true =>
    obtain⟨hs,_⟩:=vw ht
    rw[ht,cond_true]at h
    split at h
    ·rw[vu]at h
     obtain⟨⟨h0,h1,h2⟩,rfl,rfl⟩:=h
     have e1:=Za hmx
     subst e1
     have JF:=UP hl hlo
     have Jp:(vh=none/\(none:Option Value)=none/\hh=(s.length:Int))\/∃ k,vh=some (.int k hh):=eP (Gp hh' hhi) (λh=>⟨h.1,rfl,h.2⟩) id
     rcases((hx _ rfl).vi rfl).QV with⟨rfl,a0,he⟩ | ⟨blk,off,cap,f,he,wm,vc,Lv,Oh⟩
     ·cases he
      simp only[List.length_nil,Int.cast_ofNat_Int]at h2
      have hb:=jR (P:=c.P) (isS:=true) (len:=0) (cap:=0) (mx:=none) (m:=0) JF Jp (.inl ⟨rfl,rfl⟩) h0 h1 h2 (Nat.le_refl _) κ.w
      have e0:l=0:=by omega
      have e2:hh=0:=by omega
      subst e0 e2
      refine qA.pure hI (v:=.slice a0 0 0) ?_ (.mg rfl (.fG e a0))
      simp[Instr.sliceAt,run_underlying hu,Instr.slice,hb,run_sizeOf hs]
     ·cases he
      obtain⟨k1,k2,k3⟩:=E9 (lo:=l) (hi:=hh) (cap:=cap) (m:=cap) wm Lv Oh h0 h1 h2 (by omega) (Nat.le_refl _)
      have hb:=jR (P:=c.P) (isS:=true) (len:=s.length) (cap:=cap) (mx:=none) (m:=cap) JF Jp (.inl ⟨rfl,rfl⟩) h0 h1 (by omega) (Nat.le_refl _) κ.w
      have hlen:=(pW h0 h1 h2).1
      refine qA.pure hI ?_ (.mg rfl (.sl e (vr l hh s) blk _ (cap-l.toNat) _ wm k3 k1 k2))
      simp only[Instr.sliceAt,Sem.run_bind,run_underlying hu,Result.andThen_ok,Instr.slice,hb,run_sizeOf hs,Sem.run_pure,hlen]
      congr 3
      split<;>simp[vE]
    ·split at h
     ·rename_i mx m km mi hm'
      cases hhs:hi.isSome with
      | false=>rw[hhs]at h; exact absurd h ze
      | true =>
      rw[hhs,cond_true,vu]at h
      obtain⟨⟨h0,h1,rfl,h2⟩,rfl,rfl⟩:=h
      obtain⟨vm,rfl⟩:∃ u,vm=some u:=by cases vm with | none=>exact hmx.elim | some u=>exact⟨u,rfl⟩
      have hvm:=ue hm' hmx
      subst hvm
      have JF:=UP hl hlo
      have Jp:(vh=none/\(some (Value.int km hh):Option Value)=none/\hh=(s.length:Int))\/∃ k,vh=some (.int k hh):=by
       rcases UE hh' hhi with⟨g1,_⟩ | ⟨_,g⟩
       ·rw[g1]at hhs; cases hhs
       ·exact .inr g
      have em:((hh.toNat:Nat):Int)=hh:=by omega
      rcases((hx _ rfl).vi rfl).QV with⟨rfl,a0,he⟩ | ⟨blk,off,cap,f,he,wm,vc,Lv,Oh⟩
      ·cases he
       simp only[List.length_nil,Int.cast_ofNat_Int]at h2
       have hb:=jR (P:=c.P) (isS:=true) (len:=0) (cap:=0) (mx:=some (.int km hh)) (m:=hh.toNat) JF Jp (.inr ⟨km,by rw[em]⟩) h0 h1 (by omega) (by omega) κ.w
       have e0:l=0:=by omega
       have e2:hh=0:=by omega
       subst e0 e2
       refine qA.pure hI (v:=.slice a0 0 0) ?_ (.xi e a0)
       simp[Instr.sliceAt,run_underlying hu,Instr.slice,hb,run_sizeOf hs]
      ·cases he
       obtain⟨k1,k2,k3⟩:=E9 (lo:=l) (hi:=hh) (cap:=cap) (m:=hh.toNat) wm Lv Oh h0 h1 h2 (by omega) (by omega)
       have hb:=jR (P:=c.P) (isS:=true) (len:=s.length) (cap:=cap) (mx:=some (.int km hh)) (m:=hh.toNat) JF Jp (.inr ⟨km,by rw[em]⟩) h0 h1 (by omega) (by omega) κ.w
       have hlen:=(pW h0 h1 h2).1
       refine qA.pure hI ?_ (.tight e (vr l hh s) false blk _ _ nofun wm k1 k2)
       simp only[Instr.sliceAt,Sem.run_bind,run_underlying hu,Result.andThen_ok,Instr.slice,hb,run_sizeOf hs,Sem.run_pure,hlen]
       congr 3
       split<;>simp[vE]
     ·exact absurd h ze
  ·exact absurd h ze
 ·rename_i e s ne
  split at h
  ·rename_i et l hh het hl hh'
   have hu:=uq het
   cases ht:ko c et e with
   | false=>rw[ht]at h; exact absurd h ze
   | true =>
    obtain⟨hs,_⟩:=vw ht
    rw[ht,cond_true,vu]at h
    obtain⟨⟨h0,h1,h2⟩,rfl,rfl⟩:=h
    have e1:=Za hmx
    subst e1
    have JF:=UP hl hlo
    have Jp:(vh=none/\(none:Option Value)=none/\hh=(s.length:Int))\/∃ k,vh=some (.int k hh):=eP (Gp hh' hhi) (λh=>⟨h.1,rfl,h.2⟩) id
    cases hx _ rfl with
    | xi _ a0 =>
     simp only[List.length_nil,Int.cast_ofNat_Int]at h2
     have hb:=jR (P:=c.P) (isS:=true) (len:=0) (cap:=0) (mx:=none) (m:=0) JF Jp (.inl ⟨rfl,rfl⟩) h0 h1 h2 (Nat.le_refl _) κ.w
     have e0:l=0:=by omega
     have e2:hh=0:=by omega
     subst e0 e2
     refine qA.pure hI (v:=.slice a0 0 0) ?_ (.mg rfl (.fG e a0))
     simp[Instr.sliceAt,run_underlying hu,Instr.slice,hb,run_sizeOf hs]
    | tight _ _ _ blk off f vT wm Lv Oh =>
     obtain⟨k1,k2,k3⟩:=E9 (lo:=l) (hi:=hh) (cap:=s.length) (m:=s.length) wm Lv Oh h0 h1 h2 (by omega) (Nat.le_refl _)
     have hb:=jR (P:=c.P) (isS:=true) (len:=s.length) (cap:=s.length) (mx:=none) (m:=s.length) JF Jp (.inl ⟨rfl,rfl⟩) h0 h1 (by omega) (Nat.le_refl _) κ.w
     have hlen:=(pW h0 h1 h2).1
     refine qA.pure hI ?_ (.mg rfl (.sl e (vr l hh s) blk _ (s.length-l.toNat) _ wm k3 k1 k2))
     simp only[Instr.sliceAt,Sem.run_bind,run_underlying hu,Result.andThen_ok,Instr.slice,hb,run_sizeOf hs,Sem.run_pure,hlen]
     congr 3
     split<;>simp[vE]
  ·exact absurd h ze
 ·rename_i b qB e off len
  split at h
  ·rename_i et l hh het hl hh'
   have hu:=uq het
   cases ht:ko c et e with
   | false=>rw[ht]at h; exact absurd h ze
   | true =>
    obtain⟨hs,_⟩:=vw ht
    rw[ht,cond_true,vu]at h
    obtain⟨⟨h0,h1,h2⟩,rfl,rfl⟩:=h
    have e1:=Za hmx
    subst e1
    have JF:=UP hl hlo
    have Jp:(vh=none/\(none:Option Value)=none/\hh=(len:Int))\/∃ k,vh=some (.int k hh):=eP (Gp hh' hhi) (λh=>⟨h.1,rfl,h.2⟩) id
    cases hx _ rfl with
    | ms _ _ _ _ _ cap a hold vc ha nN hm =>
     have hb:=jR (P:=c.P) (isS:=true) (len:=len) (cap:=cap) (mx:=none) (m:=cap) JF Jp (.inl ⟨rfl,rfl⟩) h0 h1 (by omega) (Nat.le_refl _) κ.w
     refine qA.pure hI (v:=.slice (if cap=l.toNat then a else a.map (·.add (l.toNat*e.size))) (hh.toNat-l.toNat) (cap-l.toNat)) ?_ (.ms b qB e _ _ _ _ hold (by omega) ?_ ?_ ?_)
     ·simp only[Instr.sliceAt,Sem.run_bind,run_underlying hu,Result.andThen_ok,Instr.slice,hb,run_sizeOf hs,Sem.run_pure]
     ·intro hn
      split at hn
      ·have:=ha hn; omega
      ·cases a with | none=>have:=ha rfl; omega | some p=>cases hn
     ·intro p hp
      split at hp
      ·exact nN p hp
      ·cases a with
       | none=>cases hp
       | some q =>
        obtain⟨q1,q2,q3⟩:=q
        have:=nN _ rfl
        simp only at this
        subst this
        simp only[Option.map_some,vE,Option.some.injEq]at hp
        subst hp; rfl
     ·intro xs Wq
      obtain⟨hle,⟨rfl,rfl,hv,hp⟩ | ⟨iQ,n',o',E4,h3,h4,h5,h6,h7⟩⟩:=hm xs Wq
      ·cases hv
       have e0:l=0:=by omega
       have e2:hh=0:=by omega
       subst e0 e2
       exact⟨by simp,.inl ⟨rfl,rfl,rfl,hp⟩⟩
      ·cases h4
       refine⟨by omega,.inr ?_⟩
       by_cases WC:cap=l.toNat
       ·refine⟨iQ,n',o',0,h3,?_,by omega,?_,.inl rfl⟩
        ·simp[WC]
        ·have:(off+l.toNat+0)=off+cap:=by omega
         rw[this]; exact h6
       ·refine⟨iQ,n',o'+l.toNat*e.size,cap-l.toNat,h3,?_,by omega,?_,.inr ?_⟩
        ·simp[WC,vE]
        ·have:off+l.toNat+(cap-l.toNat)=off+cap:=by omega
         rw[this]; exact h6
        ·rcases h7 with h7 | h7
         ·omega
         ·rw[h7,Nat.add_mul]
  ·exact absurd h ze
 ·exact absurd h ze
end
end Go.AM
namespace Go.AM
set_option linter.unusedSectionVars false
variable [vU]
section
variable {c:Ctx} {κ:KS}
theorem nR(op:BinOp)(t:Nat)(x y:Operand)(k k':IntKind)(a b:Int)(P:Program)(w:World):(eqGuard op t x y (.int k a) (.int k' b)).run P w=.ok () w:=by
 unfold eqGuard; split<;>simp
theorem HH(op:BinOp)(t:Nat)(x y:Operand)(a b:ByteArray)(P:Program)(w:World):(eqGuard op t x y (.string a) (.string b)).run P w=.ok () w:=by
 unfold eqGuard; split<;>simp
theorem G0(op:BinOp)(t:Nat)(x y:Operand)(a b:Bool)(P:Program)(w:World):(eqGuard op t x y (.bool a) (.bool b)).run P w=.ok () w:=by
 unfold eqGuard; split<;>simp
theorem lv{k:IntKind}{n:Int}{st zr:St}{d:Option D}:(zH (ib k n) st).leads (d,zr)↔d=some (.zI (.int k) n)/\zr=st:=jV
theorem og{b:Bool}{st zr:St}{d:Option D}:(zH (bb b) st).leads (d,zr)↔d=some (.zI .bool b)/\zr=st:=jV
theorem CZ{op:BinOp}{k:IntKind}{a b:Int}{d:Option D}{st zr:St}{t:Nat}(h:(zH (EN op k a b) st).leads (d,zr))(hs:Ww op=false) :
  ∃ y v,d=some y/\zr=st/\(binOp op t (.int k a) (.int k b)).run c.P κ.w=.ok v κ.w/\RD κ y v:=by
 cases op<;>simp only[EN]at h<;>try (exact absurd h ze)
 all_goals first
  | (rw[lv]at h; obtain⟨rfl,rfl⟩:=h; exact⟨_,_,rfl,rfl,by simp[binOp,Op.intArith,Op.intBits,oP],RD.int⟩)
  | (rw[og]at h; obtain⟨rfl,rfl⟩:=h; exact⟨_,_,rfl,rfl,by simp[binOp,Op.intCmp],RD.bool⟩)
  | (rw[vu]at h; obtain⟨hb,rfl,rfl⟩:=h; exact⟨_,_,rfl,rfl,by simp[binOp,Op.intDiv,hb],RD.int⟩)
theorem UK(s:zf):(⟨s.toArray⟩:ByteArray).toList=s:=by simp
theorem D8{op:BinOp}{a b:zf}{d:Option D}{st zr:St}{t:Nat}(h:(zH (Ei op a b) st).leads (d,zr))(hs:Ww op=false) :
  ∃ y v,d=some y/\zr=st/\(binOp op t (.string ⟨a.toArray⟩) (.string ⟨b.toArray⟩)).run c.P κ.w=.ok v κ.w/\RD κ y v:=by
 have uU:∀ s:zf,(⟨s.toArray⟩:ByteArray).size=s.length:=λ_=>rfl
 cases op<;>simp only[Ei]at h<;>try (exact absurd h ze)
 case add =>
  rw[vu]at h; obtain⟨hb,rfl,rfl⟩:=h
  refine⟨_,_,rfl,rfl,?_,RD.str⟩
  have e:(⟨a.toArray⟩++⟨b.toArray⟩:ByteArray)=⟨(cat a b).toArray⟩:=by
   rfl
  have hn:¬ (IntKind.i64.max<((a.length+b.length:Nat):Int)):=by
   have:IntKind.i64.max=9223372036854775807:=by decide
   omega
  simp only[binOp,Op.stringOp,uU,hn]
  rfl
 all_goals (rw[og]at h; obtain⟨rfl,rfl⟩:=h; exact⟨_,_,rfl,rfl,by simp[binOp,Op.stringOp,zl,strLt],RD.bool⟩)
theorem DQ{P:Program}{t:Nat}(hu:P.underlying t=some .bool)(a b:Bool)(w:World):(Op.equal t (.bool a) (.bool b)).run P w=.ok (a==b) w:=by
 show(Op.equalIn (9999+1) t _ _).run P w=_
 rw[Op.equalIn]
 simp[run_underlying hu]
theorem CJ{a:Ty}{t:Nat}(h:z0N c a t=true):(∃ k,a=.int k/\c.P.underlying t=some (.int k))\/(a=.bool/\c.P.underlying t=some .bool)\/(a=.str/\c.P.underlying t=some .string):=by
 unfold z0N at h
 grind
theorem DJ{P:Program}{t:Nat}{u:TypeDesc}(h:P.underlying t=some u)(hn:(match u with | .struct _ | .array _ _=>true | _=>false)=false)(w:World):(isAgg t).run P w=.ok false w:=by
 simp only[isAgg,Sem.run_bind,run_underlying h]
 cases u<;>first | rfl | cases hn
theorem bB{P:Program}{t:Nat}{u:TypeDesc}(h:P.underlying t=some u)(hn:(match u with | .struct _ | .array _ _=>true | _=>false)=false)(pre:List Value)(v:Value)(cs:List Value)(w:World) :
  (part t (pre++v::cs).toArray pre.length).run P w=.ok v w:=by
 simp only[part,Sem.run_bind,DJ h hn]
 simp
theorem Zg{w:World}{ok:Nat->Prop}(dp:Nat):∀ (τ:Ty) (a b:den τ) (off:Nat) (fs:List Field) (pre WS cs bZ:List Value),Zm c τ off fs=true->Rc w ok τ a cs->Rc w ok τ b bZ->pre.length=off->WS.length=off ->
  (Op.eqFields (dp+1) (pre++cs).toArray (WS++bZ).toArray fs).run c.P w=.ok (Tw τ a b) w
 | .nil,_,_,_,fs,pre,WS,cs,bZ,h,_,_,_,_=>by
  cases fs with
  | nil=>rfl
  | cons f fs=>cases h
 | .cons a r,x,y,off,fs,pre,WS,cs,bZ,h,hx,hy,hp,hp'=>by
  cases fs with
  | nil=>cases h
  | cons f fs =>
   have h:(decide (f.name ≠ "_")&&(Nat.beq f.offset off&&(z0N c a f.type&&Zm c r (off+1) fs)))=true:=h
   simp only[Bool.and_eq_true,decide_eq_true_eq]at h
   obtain⟨h1,h2,h3,h4⟩:=h
   have h2:=Nat.eq_of_beq_eq_true h2
   obtain⟨c1,c2,rfl,g1,g2⟩:=hx.cons_inv
   obtain⟨e1,e2,rfl,k1,k2⟩:=hy.cons_inv
   have ih:=λv v'=>Zg dp r x.2 y.2 (off+1) fs (pre++[v]) (WS++[v']) c2 e2 h4 g2 k2 (by simp[hp]) (by simp[hp'])
   have fin:∀ (v v':Value) (q:Bool),c1=[v]->e1=[v']->(part f.type (pre++v::c2).toArray f.offset).run c.P w=.ok v w->(part f.type (WS++v'::e2).toArray f.offset).run c.P w=.ok v' w->(Op.equalIn (dp+1) f.type v v').run c.P w=.ok q w->Tw a x.1 y.1=q ->
     (Op.eqFields (dp+1) (pre++(c1++c2)).toArray (WS++(e1++e2)).toArray (f::fs)).run c.P w=.ok (Tw (.cons a r) x y) w:=by
    rintro v v' q rfl rfl p1 p2 p3 p4
    show(Op.eqFields (dp+1) (pre++v::c2).toArray (WS++v'::e2).toArray (f::fs)).run c.P w=.ok (Tw a x.1 y.1&&Tw r x.2 y.2) w
    rw[Op.eqFields,if_pos h1]
    simp only[Sem.run_bind,p1,p2,p3,Result.andThen_ok]
    rw[p4]
    cases q with
    | false=>rfl
    | true =>
     grind
   subst hp
   rcases CJ h3 with⟨k,rfl,hu⟩ | ⟨rfl,hu⟩ | ⟨rfl,hu⟩
   ·exact fin _ _ _ g1.yk k1.yk (by rw[h2]; exact bB hu rfl pre _ c2 w) (by rw[h2,<- hp']; exact bB hu rfl WS _ e2 w) (run_equalIn_int w dp _ k k _ _ hu) rfl
   ·exact fin _ _ _ g1.jT k1.jT (by rw[h2]; exact bB hu rfl pre _ c2 w) (by rw[h2,<- hp']; exact bB hu rfl WS _ e2 w) (run_equalIn_bool' w dp _ _ _ hu) rfl
   ·refine fin _ _ _ g1.wG k1.wG (by rw[h2]; exact bB hu rfl pre _ c2 w) (by rw[h2,<- hp']; exact bB hu rfl WS _ e2 w) (run_equalIn_string w dp _ _ _ hu) ?_
    rw[UK,UK]
    rfl
 | .int _,_,_,_,_,_,_,_,_,h,_,_,_,_=>by simp[Zm]at h
 | .bool,_,_,_,_,_,_,_,_,h,_,_,_,_=>by simp[Zm]at h
 | .str,_,_,_,_,_,_,_,_,h,_,_,_,_=>by simp[Zm]at h
 | .sl _,_,_,_,_,_,_,_,_,h,_,_,_,_=>by simp[Zm]at h
 | .expr,_,_,_,_,_,_,_,_,h,_,_,_,_=>by simp[Zm]at h
theorem EK{op:BinOp}{t:Nat}{px py:Operand}{x y:Option D}{v u:Value}{d:Option D}{zr:St}(hI:Inv κ)(hx:∀ z,x=some z->RD κ z v)(hy:∀ z,y=some z->RD κ z u)
  (h:(zH (NN c op t x y) κ.st).leads (d,zr)):qA c.P (do Pure.pure (.value (<- (do eqGuard op t px py v u; binOp op t v u)))) κ d zr:=by
 unfold NN at h
 split at h
 ·rename_i τ a σ b
  split at h
  ·rename_i b' hb
   unfold wP at hb
   split at hb
   ·rename_i e
    subst e
    injection hb with hb
    subst hb
    cases hg:σ.isAgg&&Ul c σ t with
    | false=>rw[hg]at h; exact absurd h ze
    | true =>
     rw[hg,cond_true]at h
     rw[Bool.and_eq_true]at hg
     obtain⟨Sb,hso⟩:=hg
     unfold Ul at hso
     split at hso
     ·rename_i fs hu
      simp at hso
      obtain⟨f1,f2,f3⟩:=hso
      have hfo:c.P.fieldsOf t=fs:=by unfold Program.fieldsOf; rw[hu]
      cases hx _ rfl with
      | zI _ _ cs g1 =>
      cases hy _ rfl with
      | zI _ _ bZ g2 =>
       have e1:pk σ cs=.agg cs.toArray:=by unfold pk; rw[if_pos Sb]
       have e2:pk σ bZ=.agg bZ.toArray:=by unfold pk; rw[if_pos Sb]
       have hr:=Zg (c:=c) 9998 σ a b 0 fs.toList [] [] cs bZ f1 g1 g2 rfl rfl
       have hq:(Op.equalIn 10000 t (.agg cs.toArray) (.agg bZ.toArray)).run c.P κ.w=.ok (Tw σ a b) κ.w:=by
        rw[show(10000:Nat)=9999+1 from rfl,run_equalIn_agg κ.w 9999 t _ _ (by grind) f2,hfo]
        exact hr
       rw[e1,e2]
       cases op<;>try (exact absurd h ze)
       ·rw[og]at h; obtain⟨rfl,rfl⟩:=h
        refine qA.pure hI ?_ RD.bool
        simp only[Sem.run_bind,run_eqGuard_agg κ.w _ t px py _ _ f3,Result.andThen_ok,run_eql_struct,hq]
       ·rw[og]at h; obtain⟨rfl,rfl⟩:=h
        refine qA.pure hI ?_ RD.bool
        simp only[Sem.run_bind,run_eqGuard_agg κ.w _ t px py _ _ f3,Result.andThen_ok,run_neq_struct,hq]
     ·cases hso
   ·cases hb
  ·exact absurd h ze
 ·exact absurd h ze
theorem Sj{op:BinOp}{t:Nat}{px py:Operand}{x y:Option D}{v u:Value}{d:Option D}{zr:St}(hI:Inv κ)(hx:∀ z,x=some z->RD κ z v)(hy:∀ z,y=some z->RD κ z u)
  (h:(zH (DE c op t x y) κ.st).leads (d,zr)):qA c.P (do Pure.pure (.value (<- (do eqGuard op t px py v u; binOp op t v u)))) κ d zr:=by
 unfold DE at h
 split at h
 ·rename_i k a k' b hk Yj
  have:=ue hk hx
  subst this
  have:=ue Yj hy
  subst this
  split at h
  ·rw[vu]at h
   obtain⟨hb,rfl,rfl⟩:=h
   refine qA.pure hI ?_ RD.int
   simp only[Sem.run_bind,nR,Result.andThen_ok,binOp,Op.shift,if_neg (show ¬ b<0 by omega)]
   rfl
  ·rw[vu]at h
   obtain⟨hb,rfl,rfl⟩:=h
   refine qA.pure hI ?_ RD.int
   simp only[Sem.run_bind,nR,Result.andThen_ok,binOp,Op.shift,if_neg (show ¬ b<0 by omega)]
   rfl
  ·rename_i n1 n2
   cases he:decide (k=k')with
   | false=>rw[he]at h; exact absurd h ze
   | true =>
    have On:=of_decide_eq_true he
    subst On
    rw[he,cond_true]at h
    obtain⟨y',v',rfl,rfl,h1,h2⟩:=CZ (c:=c) (κ:=κ) (t:=t) h (by cases op<;>first | rfl | (exact absurd rfl n1) | (exact absurd rfl n2))
    exact qA.pure hI (by simp only[Sem.run_bind,nR,Result.andThen_ok,h1]) h2
 ·split at h
  ·rename_i a b ha hb
   have:=nJ ha hx
   subst this
   have:=nJ hb hy
   subst this
   cases hs:Ww op with
   | true=>rw[hs]at h; exact absurd h ze
   | false =>
    rw[hs,cond_false]at h
    obtain⟨y',v',rfl,rfl,h1,h2⟩:=D8 (c:=c) (κ:=κ) (t:=t) h hs
    exact qA.pure hI (by simp only[Sem.run_bind,HH,Result.andThen_ok,h1]) h2
  ·split at h
   ·rename_i a b hu ha hb
    have:=rk ha hx
    subst this
    have:=rk hb hy
    subst this
    cases op<;>simp only[OB]at h<;>try (exact absurd h ze)
    all_goals
     rw[og]at h; obtain⟨rfl,rfl⟩:=h
     refine qA.pure hI ?_ RD.bool
     simp only[Sem.run_bind,G0,Result.andThen_ok,binOp,DQ hu,Sem.run_pure]
   ·exact EK hI hx hy h
theorem z0g{op:UnOp}{x:Option D}{v:Value}{d:Option D}{zr:St}(hI:Inv κ)(hx:∀ z,x=some z->RD κ z v)
  (h:(zH (Pq op x) κ.st).leads (d,zr)):qA c.P (do Pure.pure (.value (<- Op.unary op v))) κ d zr:=by
 unfold Pq at h
 split at h
 ·split at h
  ·rename_i k n hk
   have:=ue hk hx
   subst this
   obtain⟨rfl,rfl⟩:=h
   exact qA.pure hI (by rfl) RD.int
  ·exact absurd h ze
 ·split at h
  ·rename_i b hb
   have:=rk hb hx
   subst this
   obtain⟨rfl,rfl⟩:=h
   exact qA.pure hI (by rfl) RD.bool
  ·exact absurd h ze
 ·split at h
  ·rename_i k n hk
   have:=ue hk hx
   subst this
   obtain⟨rfl,rfl⟩:=h
   exact qA.pure hI (by rfl) RD.int
  ·exact absurd h ze
 ·exact absurd h ze
theorem z1t{t ty:Nat}{ts:Array Nat}{x:Option D}{v:Value}{vs:Array Value}{d:Option D}{zr:St}(hI:Inv κ)(hx:∀ z,x=some z->RD κ z v)(ht:ts[0]? = some t)(hv:vs[0]? = some v)
  (h:(zH (PO c t x) κ.st).leads (d,zr)):qA c.P (do Pure.pure (.value (<- Builtin.len_ ts ty vs))) κ d zr:=by
 unfold PO at h
 split at h
 ·rename_i e hu
  have key:∀ (n:Nat) (a:Option Addr) (cap:Nat),v=.slice a n cap->d=some (.zI (.int .i64) (n:Int))->zr=κ.st->qA c.P (do Pure.pure (.value (<- Builtin.len_ ts ty vs))) κ d zr:=by
   rintro n a cap rfl rfl rfl
   exact qA.pure hI (by simp[Builtin.len_,ht,hv,run_underlying hu,goInt]) RD.int
  split at h
  ·rename_i e' l
   rw[lv]at h
   rcases((hx _ rfl).vi rfl).QV with⟨rfl,a0,he⟩ | ⟨blk,off,cap,f,he,_⟩
   ·grind
   ·grind
  ·rename_i e' l ne
   rw[lv]at h
   cases hx _ rfl with
   | xi _ a0=>grind
   | tight=>grind
  ·rw[lv]at h
   cases hx _ rfl
   grind
  ·rw[lv]at h
   cases hx _ rfl
   grind
  ·exact absurd h ze
 ·rename_i hu
  split at h
  ·rename_i s hs
   have:=nJ hs hx
   subst this
   obtain⟨rfl,rfl⟩:=h
   have uU:(⟨s.toArray⟩:ByteArray).size=s.length:=rfl
   exact qA.pure hI (by simp only[Builtin.len_,ht,hv,Sem.run_bind,run_underlying hu,Result.andThen_ok,goInt,uU,Sem.run_pure]) RD.int
  ·exact absurd h ze
 ·exact absurd h ze
theorem Es{f:Int->Int->Int}{g:Value->Value->Sem Value}{P:Program}(hg:∀ k k' a b,(g (.int k a) (.int k' b)).run P κ.w=.ok (.int k (f a b)) κ.w){x y:Option D}{v u:Value}{d:Option D}{zr:St}
  (hI:Inv κ) (hx:∀ z,x=some z->RD κ z v) (hy:∀ z,y=some z->RD κ z u) (h:(zH (U0 f [x,y]) κ.st).leads (d,zr)) :
  ∃ r,(g v u).run P κ.w=.ok r κ.w/\zr=κ.st/\∀ d',d=some d'->RD κ d' r:=by
 unfold U0 at h
 simp only at h
 split at h
 ·rename_i k a k' b hk Yj
  have:=ue hk hx
  subst this
  have:=ue Yj hy
  subst this
  cases he:decide (k=k')with
  | false=>rw[he]at h; exact absurd h ze
  | true =>
   rw[he,cond_true,lv]at h
   obtain⟨rfl,rfl⟩:=h
   exact⟨_,hg k k' a b,rfl,λd' he=>by cases he; exact RD.int⟩
 ·exact absurd h ze
theorem YA{x:Option D}{i:Nat}{v:Value}{d:Option D}{zr:St}(hI:Inv κ)(hx:∀ z,x=some z->RD κ z v)
  (h:(zH (QJ x i) κ.st).leads (d,zr)):qA c.P (do Pure.pure (.value (<- Instr.extract v i))) κ d zr:=by
 unfold QJ at h
 split at h
 ·rename_i vs
  obtain⟨y,hy,rfl,rfl⟩:=Uz h
  cases hx _ rfl with
  | yH _ us hl hh =>
   obtain⟨u,h1,h2⟩:=qH.get (⟨hl,hh⟩:qH κ vs us) hy
   exact qA.pure hI (by simp[Instr.extract,h1]) h2
 ·exact absurd h ze
theorem de:∀ {l:List (Option D)} {ds:List D},uB l=some ds->l=ds.map some
 | [],ds,h=>by simp[uB]at h; subst h; rfl
 | some d::r,ds,h=>by
  simp only[uB]at h
  split at h
  ·rename_i l hl; cases h; simp[de hl]
  ·cases h
 | none::r,ds,h=>by simp[uB]at h
theorem yO{l:List (Option D)}{ds:List D}{vs:List Value}(h:uB l=some ds)(hl:l.length=vs.length)
  (hr:∀ (i:Nat) (d:D) (v:Value),l[i]? = some (some d)->vs[i]? = some v->RD κ d v):qH κ ds vs:=by
 have:=de h
 subst this
 refine⟨by grind,λi h1 h2=>hr i _ _ ?_ (List.getElem?_eq_getElem h2)⟩
 simp
end
end Go.AM
namespace Go.AM
namespace T
variable {α β γ:Type}
theorem bI{t:T α}{x y:α}(h:t.leads x)(k:t.leads y):x=y:=by
 induction t with
 | ret a=>exact h.symm.trans k
 | ite b p q ip iq =>
  rcases h with⟨h1,h⟩ | ⟨h1,h⟩<;>rcases k with⟨k1,k⟩ | ⟨k1,k⟩
  ·grind
  ·grind
  ·grind
  ·grind
 | zM p t ih=>exact ih h.2 k.2
 | fail=>exact h.elim
theorem zd{t:T α}{f:α->T β}{x:β}:(t.bind f).leads x↔∃ a,t.leads a/\(f a).leads x:=by
 induction t with
 | ret a=>exact⟨λh=>⟨a,rfl,h⟩,λ⟨b,h,k⟩=>by cases h; exact k⟩
 | ite b p q ip iq =>
  constructor
  ·rintro(⟨h1,h⟩ | ⟨h1,h⟩)
   ·obtain⟨a,k1,k2⟩:=ip.1 h; exact⟨a,.inl ⟨h1,k1⟩,k2⟩
   ·obtain⟨a,k1,k2⟩:=iq.1 h; exact⟨a,.inr ⟨h1,k1⟩,k2⟩
  ·rintro⟨a,⟨h1,k1⟩ | ⟨h1,k1⟩,k2⟩
   ·exact .inl ⟨h1,ip.2 ⟨a,k1,k2⟩⟩
   ·exact .inr ⟨h1,iq.2 ⟨a,k1,k2⟩⟩
 | zM p t ih =>
  constructor
  ·rintro⟨h1,h⟩; obtain⟨a,k1,k2⟩:=ih.1 h; exact⟨a,⟨h1,k1⟩,k2⟩
  ·rintro⟨a,⟨h1,k1⟩,k2⟩; exact⟨h1,ih.2 ⟨a,k1,k2⟩⟩
 | fail=>exact⟨λh=>h.elim,λ⟨_,h,_⟩=>h.elim⟩
open Classical in
noncomputable def run:T α->Option α
 | ret a=>some a
 | ite b t e=>bif b then t.run else e.run
 | zM p t=>if p then t.run else none
 | fail=>none
@[simp] theorem z7(a:α):(ret a).run=some a:=rfl
@[simp] theorem z8P:(fail:T α).run=none:=rfl
theorem run_ite(b:Bool)(t e:T α):(ite b t e).run=if b=true then t.run else e.run:=by cases b<;>rfl
@[simp] theorem zh(t e:T α):(ite true t e).run=t.run:=rfl
@[simp] theorem zg(t e:T α):(ite false t e).run=e.run:=rfl
theorem zb{p:Prop}(h:p)(t:T α):(zM p t).run=t.run:=by simp only[run,if_pos h]
theorem za{b:Bool}(h:b=true)(t e:T α):(ite b t e).run=t.run:=by rw[h]; rfl
theorem z8{b:Bool}(h:b=false)(t e:T α):(ite b t e).run=e.run:=by rw[h]; rfl
theorem wz{t:T α}{x:α}:t.run=some x↔t.leads x:=by
 induction t with
 | ret a=>simp[leads]
 | ite b p q ip iq=>cases b<;>simp[leads,ip,iq]
 | zM p t ih=>by_cases h:p<;>simp[run,leads,ih]
 | fail=>simp[leads]
theorem run_bind(t:T α)(f:α->T β):(t.bind f).run=t.run.bind λa=>(f a).run:=by
 induction t with
 | ret a=>rfl
 | ite b p q ip iq=>cases b<;>simp[bind,ip,iq]
 | zM p t ih=>by_cases h:p<;>simp[run,bind,h,ih]
 | fail=>rfl
theorem z6{t:T α}{a:α}(h:t.run=some a)(f:α->T β):(t.bind f).run=(f a).run:=by rw[run_bind,h]; rfl
section loop
variable {σ ρ:Type} (r:σ->T (σ⊕ρ))
inductive Iter:Nat->σ->ρ->Prop
 | done {s:σ} {x:ρ} (h:(r s).leads (.inr x)):Iter 0 s x
 | step {n:Nat} {s s':σ} {x:ρ} (h:(r s).leads (.inl s')) (k:Iter n s' x):Iter (n+1) s x
theorem Iter.det{r:σ->T (σ⊕ρ)}{n m:Nat}{s:σ}{x y:ρ}(h:Iter r n s x)(k:Iter r m s y):x=y:=by
 induction h generalizing m y with
 | done h =>
  cases k with
  | done k=>have:=bI h k; cases this; rfl
  | step k _=>have:=bI h k; cases this
 | step h _ ih =>
  cases k with
  | done k=>have:=bI h k; cases this
  | step k k2=>have:=bI h k; cases this; exact ih k2
open Classical in
noncomputable def loop (s:σ):T ρ:=if h:∃ x n,Iter r n s x then .ret h.choose else .fail
theorem en{s:σ}{x:ρ}:(loop r s).leads x↔∃ n,Iter r n s x:=by
 unfold loop
 split
 ·rename_i h
  obtain⟨n,hn⟩:=h.choose_spec
  constructor
  ·intro hx; cases hx; exact⟨n,hn⟩
  ·rintro⟨m,hm⟩; exact hn.det hm
 ·rename_i h
  exact⟨λk=>k.elim,λ⟨n,hn⟩=>h ⟨x,n,hn⟩⟩
theorem vD{r:σ->T (σ⊕ρ)}(I:σ->Prop)(μ:σ->Nat)(f:σ->ρ)
  (h:∀ s,I s->(∃ s',(r s).run=some (.inl s')/\I s'/\μ s'<μ s/\f s'=f s)\/(r s).run=some (.inr (f s))) {s:σ} (hs:I s):(loop r s).run=some (f s):=by
 rw[wz,en]
 generalize hm:μ s=m
 induction m using Nat.strongRecOn generalizing s with
 | _ m ih =>
  rcases h s hs with⟨s',h1,h2,h3,h4⟩ | h1
  ·obtain⟨n,hn⟩:=ih (μ s') (by omega) h2 rfl
   exact⟨n+1,.step (wz.1 h1) (h4▸hn)⟩
  ·exact⟨0,.done (wz.1 h1)⟩
theorem wU{r:σ->T (σ⊕ρ)}{s s':σ}(h:(r s).run=some (.inl s')):(loop r s).run=(loop r s').run:=by
 have h':=wz.1 h
 apply Option.ext
 intro x
 show(loop r s).run=some x↔(loop r s').run=some x
 rw[wz,wz,en,en]
 constructor
 ·rintro⟨n,hn⟩
  cases hn with
  | done k=>have:=bI h' k; cases this
  | step k k2=>have:=bI h' k; cases this; exact⟨_,k2⟩
 ·rintro⟨n,hn⟩; exact⟨n+1,.step h' hn⟩
theorem qw{r:σ->T (σ⊕ρ)}{s:σ}{x:ρ}(h:(r s).run=some (.inr x)):(loop r s).run=some x:=by
 rw[wz,en]; exact⟨0,.done (wz.1 h)⟩
end loop
section fix
variable {σ ρ:Type} (b:(σ->T ρ)->σ->T ρ)
def Ce:Nat->σ->T ρ
 | 0,_=>.fail
 | n+1,x=>b (Ce n) x
open Classical in
noncomputable def fix (x:σ):T ρ:=if h:∃ y n,∀ m,n<=m->(Ce b m x).leads y then .ret h.choose else .fail
theorem lq{x:σ}{y:ρ}:(fix b x).leads y↔∃ n,∀ m,n<=m->(Ce b m x).leads y:=by
 unfold fix
 split
 ·rename_i h
  obtain⟨n,hn⟩:=h.choose_spec
  constructor
  ·intro hx; cases hx; exact⟨n,hn⟩
  ·rintro⟨k,hk⟩; exact bI (hn (max n k) (by omega)) (hk (max n k) (by omega))
 ·rename_i h
  exact⟨λk=>k.elim,λ⟨n,hn⟩=>h ⟨y,n,hn⟩⟩
theorem cY{b:(σ->T ρ)->σ->T ρ}(I:σ->Prop)(μ:σ->Nat)(f:σ->ρ)
  (h:∀ x,I x->∀ g:σ->T ρ,(∀ y,I y->μ y<μ x->(g y).run=some (f y))->(b g x).run=some (f x)) {x:σ} (hx:I x):(fix b x).run=some (f x):=by
 rw[wz,lq]
 refine⟨μ x+1,λm hm => ?_⟩
 induction m generalizing x with
 | zero=>omega
 | succ m ih =>
  rw[<- wz]
  refine h x hx (Ce b m) λy hy qy => ?_
  rw[wz]
  exact ih hy (by omega)
end fix
def tM:T α->Option Prop
 | ret _=>none
 | ite b t e=>match t.tM,e.tM with
  | none,none=>none
  | some p,none=>some (b=true->p)
  | none,some q=>some (b=false->q)
  | some p,some q=>some ((b=true->p)/\(b=false->q))
 | zM p t=>match t.tM with
  | none=>some p
  | some q=>some (p/\q)
 | fail=>some False
def val(d:α):T α->α
 | ret a=>a
 | ite b t e=>bif b then t.val d else e.val d
 | zM _ t=>t.val d
 | fail=>d
def flat(d:α)(t:T α):T α:=match t.tM with
 | none=>.ret (t.val d)
 | some p=>.zM p (.ret (t.val d))
def Wb(t:T α):Prop:=match t.tM with | none=>True | some p=>p
theorem VS(d:α)(t:T α)(x:α):t.leads x↔t.Wb/\t.val d=x:=by
 induction t with
 | ret a=>simp[leads,Wb,tM,val]
 | ite b p q ip iq =>
  cases b
  ·simp only[leads,val,iq]
   unfold Wb
   simp only[tM]
   grind
  ·simp only[leads,val,ip]
   unfold Wb
   simp only[tM]
   grind
 | zM p t ih =>
  simp only[leads,ih,val]
  unfold Wb
  simp only[tM]
  grind
 | fail=>simp[leads,Wb,tM]
end T
abbrev zF(x:Int):Int:=IntKind.wrap .i64 x
abbrev zN(x:Int):Int:=IntKind.wrap .u64 x
abbrev xX(x:Int):Int:=IntKind.wrap .u32 x
abbrev GW(x:Int):Int:=IntKind.wrap .u8 x
def uv(qB off len n:Nat):Prop:=qB=n/\off=0/\len=n
def qz(i:Int)(n:Nat):Prop:=0<=i/\i<(n:Int)
def mK(qB jK idx n:Nat):Prop:=qB=jK/\idx<n
def KF(qB jK off len n m bytes:Nat):Prop:=qB=jK/\off=0/\len=n/\(n+m)*bytes<=140737488355328
def bf(l h:Int)(n:Nat):Prop:=0<=l/\l<=h/\h<=(n:Int)
def jS(l:zf):Nat->zf
 | 0=>[]
 | c+1=>l++jS l c
def VJ(u:Nat):zf:=if h:u<10 then[UInt8.ofNat (48+u)]else VJ (u / 10)++[UInt8.ofNat (48+u % 10)]
termination_by u
decreasing_by omega
def nh(n:Int):zf:=if n<0 then 45::VJ n.natAbs else VJ n.toNat
def cZ:zf->zf->Int
 | [],sub=>if sub.isEmpty then 0 else -1
 | b::l,sub=>if sub.isPrefixOf (b::l)then 0 else if cZ l sub == -1 then -1 else cZ l sub+1
def nt:zf->UInt8->Int
 | [],_ => -1
 | b::l,c=>if b==c then 0 else if nt l c == -1 then -1 else nt l c+1
def uD(s sep:zf):zf×zf×Bool:=if 0<=cZ s sep then(s.take (cZ s sep).toNat,s.drop ((cZ s sep).toNat+sep.length),true)else(s,[],false)
def r8(s p:zf):zf:=if List.isPrefixOf p s=true then s.drop p.length else s
def cI(s:zf):den (dx .bool 256):=Mk (e:=.bool) (λj=>s.contains (UInt8.ofNat j)) 256 0
def z3C(v v' o l n:Nat):Prop:=v=v'/\o+l<=n
def Qt(n m:Int)(bytes:Nat):Prop:=0<=n/\n<=m/\m*bytes<=140737488355328/\m<=140737488355328
def nth{α:Type}(l:List α)(i:Int)(d:α):α:=List.getD l i.toNat d
def yJ{α:Type}(l:List α)(i:Nat)(d:α):α:=List.getD l i d
def qp(s:zf)(i:Int):Int:=((List.getD s i.toNat 0).toNat:Int)
def Dn(k:IntKind)(x y:Int):Int:=oP k (· &&& ·) x y
def tJ(k:IntKind)(x y:Int):Int:=oP k (· ||| ·) x y
def El(k:IntKind)(x y:Int):Int:=oP k (· ^^^ ·) x y
theorem eC{l h:Int}{n:Nat}:bf l h n↔0<=l/\l<=h/\h<=(n:Int):=by rfl
def TJ(l:List Int):T (zf×Unit):=.zM ((∀ n∈l,(0:Int)<=n/\n<256)/\List.length l<=140737488355328) (.ret (qK l,()))
end Go.AM
namespace Go.AM
def PZ(b:UInt8):List zf->List zf
 | []=>[[b]]
 | x::y=>(b::x)::y
def cQ(c:UInt8):zf->List zf
 | []=>[[]]
 | b::r=>if b=c then[]::cQ c r else PZ b (cQ c r)
def bE(c:UInt8):zf->zf->List zf
 | cur,[]=>if cur=[]then[]else[cur]
 | cur,b::r=>if b=c then(if cur=[]then bE c [] r else cur::bE c [] r)else bE c (cur++[b]) r
def gY:zf->zf->Int
 | [],_ => -1
 | b::l,chars=>if chars.contains b then 0 else if gY l chars == -1 then -1 else gY l chars+1
abbrev oI{A R:Type}(i:Int)(l:List A)(t:T R):T R:=.zM (qz i l.length) t
abbrev oE{A R:Type}(l:List A)(t:T R):T R:=.zM (l.length=l.length) t
abbrev oC{A R:Type}(l:List A)(t:T R):T R:=.zM (uv l.length 0 l.length l.length) t
abbrev oM{R:Type}(a b:Nat)(t:T R):T R:=.zM (uv a 0 a b) (.zM (a=b) t)
abbrev oA{A R:Type}(l:List A)(k:Nat)(t:T R):T R:=.zM (KF l.length l.length 0 l.length l.length 1 k) t
abbrev oK{R:Type}(a b:zf)(t:T R):T R:=.zM (a.length+b.length<=4611686018427387904) t
abbrev oZ{R:Type}(t:T R):T R:=.zM (uv 0 0 0 0) (.zM ((0:Nat)=0) t)
abbrev oV{A B C D E F R:Type}(a:List A)(b:List B)(c:List C)(d:List D)(e:List E)(f:List F)(t:T R):T R:=oC a (oC b (oC c (oC d (oC e (oC f t)))))
abbrev oW{A B C D E F R:Type}(a:List A)(b:List B)(c:List C)(d:List D)(e:List E)(f:List F)(t:T R):T R:=oE a (oE b (oE c (oE d (oE e (oE f t)))))
abbrev oY{A B C D E F R:Type}(a:List A)(b:List B)(c:List C)(d:List D)(e:List E)(f:List F)(t:T R):T R:=oV a b c d e f (oW a b c d e f t)
end Go.AM
namespace Go.AM
namespace T
variable {α β:Type}
attribute [simp] run_bind
@[simp] theorem kX(b:Bool)(t e:T α):(ite b t e).run=if b=true then t.run else e.run:=run_ite b t e
@[simp] theorem qq{i:Int}{n:Nat}(t:T α)(h1:0<=i)(h2:i<(n:Int)):(zM (qz i n) t).run=t.run:=zb ⟨h1,h2⟩ t
@[simp] theorem jW{v v' i n:Nat}(t:T α)(h1:v=v')(h2:i<n):(zM (mK v v' i n) t).run=t.run:=zb ⟨h1,h2⟩ t
@[simp] theorem mh{v v' o l n m b:Nat}(t:T α)(h1:v=v')(h2:o=0)(h3:l=n)(h4:(n+m)*b<=140737488355328):(zM (KF v v' o l n m b) t).run=t.run:=zb ⟨h1,h2,h3,h4⟩ t
@[simp] theorem zL{v o l n:Nat}(t:T α)(h1:v=n)(h2:o=0)(h3:l=n):(zM (uv v o l n) t).run=t.run:=zb ⟨h1,h2,h3⟩ t
@[simp] theorem eJ{l h:Int}{n:Nat}(t:T α)(h1:0<=l)(h2:l<=h)(h3:h<=(n:Int)):(zM (bf l h n) t).run=t.run:=zb ⟨h1,h2,h3⟩ t
@[simp] theorem run_mk{n m:Int}{b:Nat}(t:T α)(h1:0<=n)(h2:n<=m)(h3:m*b<=140737488355328)(h4:m<=140737488355328):(zM (Qt n m b) t).run=t.run:=zb ⟨h1,h2,h3,h4⟩ t
@[simp] theorem z1P{v v' o l n:Nat}(t:T α)(h1:v=v')(h2:o+l<=n):(zM (z3C v v' o l n) t).run=t.run:=zb ⟨h1,h2⟩ t
@[simp] theorem ve{a b:Nat}(t:T α)(h:a=b):(zM (a=b) t).run=t.run:=zb h t
@[simp] theorem zp{a b:Nat}(t:T α)(h:a<=b):(zM (a<=b) t).run=t.run:=zb h t
@[simp] theorem uS{a b:Int}(t:T α)(h:a<=b):(zM (a<=b) t).run=t.run:=zb h t
@[simp] theorem vf{a b:Int}(t:T α)(h:a≠b):(zM (a≠b) t).run=t.run:=zb h t
@[simp] theorem zef{A:Type}{i:Int}{l:List A}(t:T α)(h1:0<=i)(h2:i<(l.length:Int)):(oI i l t).run=t.run:=zb ⟨h1,h2⟩ t
@[simp] theorem zf7{A:Type}(l:List A)(t:T α):(oE l t).run=t.run:=zb rfl t
@[simp] theorem zf9{A:Type}(l:List A)(t:T α):(oC l t).run=t.run:=zb ⟨rfl,rfl,rfl⟩ t
@[simp] theorem zcJ{a b:Nat}(t:T α)(h:a=b):(oM a b t).run=t.run:=(zb ⟨h,rfl,h⟩ _).trans (zb h t)
@[simp] theorem zez{A:Type}{l:List A}{k:Nat}(t:T α)(h:(l.length+1)*k<=140737488355328):(oA l k t).run=t.run:=zb ⟨rfl,rfl,rfl,h⟩ t
@[simp] theorem zdJ{a b:zf}(t:T α)(h:a.length+b.length<=4611686018427387904):(oK a b t).run=t.run:=zb h t
@[simp] theorem zo(t:T α):(zM True t).run=t.run:=zb trivial t
end T
@[simp] theorem zB{x:Int}(h1 : -9223372036854775808<=x)(h2:x<=9223372036854775807):zF x=x:=IntWalk.i64_in x ⟨h1,h2⟩
@[simp] theorem Gv{x:Int}(h1:0<=x)(h2:x<=255):GW x=x:=IntWalk.u8_in x ⟨h1,h2⟩
@[simp] theorem Q9{x:Int}(h1:0<=x)(h2:x<=4294967295):xX x=x:=IntWalk.u32_in x ⟨h1,h2⟩
@[simp] theorem qk{x:Int}(h1:0<=x)(h2:x<=18446744073709551615):zN x=x:=IntWalk.u64_in x ⟨h1,h2⟩
theorem dV(x:Int):xX x=x % 4294967296:=IntKind.wrap_u32 x
theorem HD{α:Type}(l:List α)(d:α){i:Int}(h0:0<=i)(hi:i<(l.length:Int)):l.drop i.toNat=nth l i d::l.drop (i+1).toNat:=by
 unfold nth
 have qy:i.toNat<l.length:=by omega
 have e:(i+1).toNat=i.toNat+1:=by omega
 rw[e,List.drop_eq_getElem_cons qy]
 simp[List.getD_eq_getElem?_getD,qy]
theorem Rl{α:Type}(l:List α){i:Int}(hi:¬ i<(l.length:Int)):l.drop i.toNat=[]:=List.drop_eq_nil_of_le (by omega)
namespace T
variable {σ ρ α β:Type}
theorem Kf{r:σ->T (σ⊕ρ)}(l:List α)(d:α)(e:β->Int->σ)(I:β->List α->Prop)(f:List α->β->ρ)
  (step:∀ (b:β) (x:α) (xs:List α) (i:Int),0<=i->i<(l.length:Int)->nth l i d=x->I b (x::xs) ->
   (∃ b',(r (e b i)).run=some (.inl (e b' (i+1)))/\I b' xs/\f xs b'=f (x::xs) b)\/(r (e b i)).run=some (.inr (f (x::xs) b)))
  (done:∀ b,I b []->(r (e b (l.length:Int))).run=some (.inr (f [] b))) {b:β} (hI:I b l):(loop r (e b 0)).run=some (f l b):=by
 have key:∀ (xs:List α) (i:Nat) (b:β),l.drop i=xs->i<=l.length->I b xs->(loop r (e b (i:Int))).run=some (f xs b):=by
  intro xs
  induction xs with
  | nil =>
   intro i b hd hi hb
   have:i=l.length:=by have:=List.drop_eq_nil_iff.1 hd; omega
   subst this
   exact qw (done b hb)
  | cons x xs ih =>
   intro i b hd hi hb
   have qy:i<l.length:=by
    rcases Nat.lt_or_ge i l.length with h | h
    ·exact h
    ·rw[List.drop_eq_nil_of_le h]at hd; cases hd
   have kR:=HD l d (i:=(i:Int)) (by omega) (by omega)
   have e1:((i:Int)+1).toNat=i+1:=by omega
   simp only[Int.toNat_natCast,e1]at kR
   rw[hd]at kR
   obtain⟨h1,h2⟩:=List.cons.inj kR
   rcases step b x xs i (by omega) (by omega) (by rw[h1]) hb with⟨b',g1,g2,g3⟩ | g1
   ·rw[wU g1,<- g3]
    have:=ih (i+1) b' h2.symm (by omega) g2
    simpa using this
   ·exact qw g1
 exact key l 0 b (by simp) (Nat.zero_le _) hI
end T
end Go.AM