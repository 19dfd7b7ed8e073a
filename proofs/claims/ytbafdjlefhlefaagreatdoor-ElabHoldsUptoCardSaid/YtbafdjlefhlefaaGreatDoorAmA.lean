/-
  The abstract machine, part A: texts of our own, the same for each claim.
-/
import Derived.WalkKit
set_option linter.unusedVariables false
namespace Go.AM
theorem cp{a b c d:Prop}(h:a∨b)(f:a→c)(g:b→d):c∨d:=h.elim (fun x=>.inl (f x)) (fun x=>.inr (g x))
abbrev zf:=List UInt8
inductive Ty where
 | int (k:IntKind) | bool | str | sl (e:Ty) | nil | cons (a b:Ty) | expr
 deriving DecidableEq
inductive Expr where
 | mk (kind:Int) (num:Bool×List Int×List Int×Unit) (name:zf) (kids:List Expr)
def Expr.kind:Expr→Int | .mk k _ _ _=>k
def Expr.num:Expr→Bool×List Int×List Int×Unit | .mk _ n _ _=>n
def Expr.name:Expr→zf | .mk _ _ n _=>n
def Expr.kids:Expr→List Expr | .mk _ _ _ l=>l
@[reducible] def den:Ty→Type
 | .int _=>Int
 | .bool=>Bool
 | .str=>zf
 | .sl e=>List (den e)
 | .nil=>Unit
 | .cons a b=>den a×den b
 | .expr=>Expr
abbrev u32:Ty:=.int .u32
abbrev i64:Ty:=.int .i64
abbrev Gw:Ty:=.cons .bool (.cons (.sl u32) (.cons (.sl u32) .nil))
abbrev XN:Ty:=.cons i64 (.cons Gw (.cons .str (.cons (.sl .expr) .nil)))
def Expr.NL(e:Expr):den XN:=(e.kind,e.num,e.name,e.kids,())
def Expr.ED(x:den XN):Expr:=.mk x.1 x.2.1 x.2.2.1 x.2.2.2.1
def Ty.size:Ty→Nat
 | .int _ | .bool | .str | .sl _=>1
 | .nil=>0
 | .cons a b=>a.size+b.size
 | .expr=>6
def Ty.isAgg:Ty→Bool
 | .nil | .cons _ _ | .expr=>true
 | _=>false
def zb:(τ:Ty)→den τ
 | .int _=>(0:Int)
 | .bool=>false
 | .str=>([]:zf)
 | .sl e=>([]:List (den e))
 | .nil=>()
 | .cons a b=>(zb a,zb b)
 | .expr=>.mk 0 (false,[],[],()) [] []
inductive D where
 | zU (τ:Ty) (x:den τ)
 | tight (e:Ty) (l:List (den e)) (ne:Bool)
 | xw | yI | wb | u9 | vX
 | ptr (b off:Nat)
 | xx (τ:Ty) (x:den τ)
 | uC (b qY:Nat) (e:Ty) (idx off:Nat)
 | ms (b qY:Nat) (e:Ty) (off len:Nat)
 | xr (f:Nat) (cap:List D)
 | agg (cs:List D)
 | gK (vs:List D)
 | iface (t:Nat) (d:D)
 | ZV
 | yr (b T:Nat)
 | dp (T:Nat)
inductive yp where
 | dead
 | var (d:D)
 | arr (qY:Nat) (e:Ty) (xs:List (den e))
abbrev St:=List yp
inductive T(α:Type) where
 | ret (a:α)
 | ite (b:Bool) (t e:T α)
 | zd (p:Prop) (t:T α)
 | fail
namespace T
variable {α β:Type}
def bind:T α→(α→T β)→T β
 | ret a,k=>k a
 | ite b t e,k=>ite b (t.bind k) (e.bind k)
 | zd p t,k=>zd p (t.bind k)
 | fail,_=>fail
def U7:Option α→T α
 | some a=>ret a
 | none=>fail
def leads:T α→α→Prop
 | ret a,x=>a=x
 | ite b t e,x=>(b=true∧t.leads x)∨(b=false∧e.leads x)
 | zd p t,x=>p∧t.leads x
 | fail,_=>False
def wp(Q:α→Prop):T α→Prop
 | ret a=>Q a
 | ite b t e=>(b=true→t.wp Q)∧(b=false→e.wp Q)
 | zd p t=>p∧t.wp Q
 | fail=>False
end T
abbrev Fr:=List (Nat×Option D)
def Fr.get:Fr→Nat→Option D
 | [],_=>none
 | (t,d)::r,s=>bif Nat.beq t s then d else Fr.get r s
def Fr.put(fr:Fr)(dst:Option Nat)(d:Option D):Fr :=
 match dst with
 | some t=>(t,d)::fr
 | none=>fr
abbrev Kn:=List (Nat×Option Bool)
def Kn.get:Kn→Nat→Option Bool
 | [],_=>none
 | (t,b)::r,s=>bif Nat.beq t s then b else Kn.get r s
inductive HV where
 | ret (ds:List D)
 | cg (d:D)
inductive WB where
 | rp (τ:Ty) | im (τ:Ty)
inductive QL where
 | ty (τ:Ty) | rp (τ:Ty) | xr (f:Nat) (caps:List WB)
structure Sig where
 params:List QL
 res:List Ty
structure Ctx where
 P:Program
 xid:Nat
 sig:Nat→List D→Option Sig
 fn:Nat→List D→St→T (HV×St)
 ro:Nat→Bool
 /-- Blocks that a call leaves as they are. -/
 free:Nat→List D→St→List Nat
 TA:∀ (g:Nat) (args:List D) (st:St) (rs:HV) (zO:St) (b:Nat),(fn g args st).leads (rs,zO)→b∈free g args st→zO[b]? = st[b]?
inductive Ex where
 | normal | exit (id:Nat) | ret | cg (d:D)
class Zk where
 u8:Nat
def z64[Zk](e:Ty)(t:Nat):Bool:=match e with
 | .int .u8=>Nat.beq t Zk.u8
 | _=>true
def z4n[Zk](e:Ty)(t:Nat):Prop:=e=.int .u8→t=Zk.u8
section ops
variable (c:Ctx)
variable [Zk]
def me(t:Nat):Option Nat:=(c.P.info? t).map (·.size)
def oY(t:Nat):Option Nat:=(c.P.info? t).map (·.bytes)
def DM(t:Nat):Option Bool:=match c.P.underlying t with | some (.struct _) | some (.array _ _)=>some true | some _=>some false | none=>none
def ep:List (Option Ty)→Option Ty
 | []=>some .nil
 | some a::r=>match ep r with | some b=>some (.cons a b) | none=>none
 | none::_=>none
def BF:Nat→Nat→Option Ty
 | 0,_=>none
 | n+1,t=>bif Nat.beq t c.xid then some .expr else
  match c.P.underlying t with
  | some (.int k)=>some (.int k)
  | some .bool=>some .bool
  | some .string=>some .str
  | some (.slice e)=>match BF n e with | some a=>some (.sl a) | none=>none
  | some (.struct fs)=>ep (fs.toList.map fun f=>BF n f.type)
  | some (.array k e)=>ep (List.replicate k (BF n e))
  | _=>none
def kW(t:Nat)(τ:Ty):Bool:=z64 τ t&&(match me c t with | some n=>Nat.beq n τ.size | none=>false)&&(match DM c t with | some b=>b==τ.isAgg | none=>false)
def sj:Value→Option D
 | .int k n=>some (.zU (.int k) n)
 | .bool b=>some (.zU .bool b)
 | .string s=>some (.zU .str s.data.toList)
 | .slice none 0 0=>some .xw
 | .pointer none=>some .yI
 | .nilFunc=>some .u9
 | .nilIface=>some .wb
 | .map none=>some .vX
 | _=>none
def jJ:List (Option D)→Option (List D)
 | []=>some []
 | some d::r=>match jJ r with | some l=>some (d::l) | none=>none
 | none::_=>none
def VH:Value→Option D
 | .agg cs=>match jJ (cs.toList.map sj)with | some l=>some (.agg l) | none=>none
 | v=>sj v
def flat:(τ:Ty)→den τ→List D
 | .int k,x=>[.zU (.int k) x]
 | .bool,x=>[.zU .bool x]
 | .str,x=>[.zU .str x]
 | .sl e,x=>[.zU (.sl e) x]
 | .nil,_=>[]
 | .cons a b,x=>flat a x.1++flat b x.2
 | .expr,x=>[.zU i64 x.kind,.zU .bool x.num.1,.zU (.sl u32) x.num.2.1,.zU (.sl u32) x.num.2.2.1,.zU .str x.name,.zU (.sl .expr) x.kids]
def qt:D→List D
 | .zU τ x=>flat τ x
 | .agg cs=>cs
 | .gK _=>[]
 | d=>[d]
def D.isAgg:D→Bool
 | .agg _=>true
 | _=>false
def D.eH:D→Bool
 | .zU τ _=>τ.isAgg
 | .agg _=>true
 | _=>false
def D.zdr:D→Bool
 | .zU τ _=>τ.isAgg
 | .agg _=>true
 | _=>false
def b7:List D→Option Nat
 | .dp T::_=>some T
 | .yr _ T::_=>some T
 | _=>none
def D.typed:D→Option Nat
 | .agg l=>b7 l
 | _=>none
def nV(d d':D):Bool:=match d'.typed with
 | none=>true
 | some T=>match d.typed with | some T'=>Nat.beq T T' | none=>false
def D.uE:D→Bool
 | .gK _=>true
 | _=>false
def vW{a b:Ty}(x:den a):Option (den b):=if h:a=b then some (h▸x)else none
def DH:Ty→Option (Ty×Nat)
 | .cons e r=>match r with
  | .nil=>some (e,1)
  | r=>match DH r with
   | some (e',n)=>bif decide (e=e')then some (e,n+1)else none
   | none=>none
 | _=>none
def Cu(e:Ty):(τ:Ty)→den τ→Nat→den e
 | .cons _ _,x,0=>match(vW x.1:Option (den e))with | some y=>y | none=>zb e
 | .cons _ b,x,i+1=>Cu e b x.2 i
 | _,_,_=>zb e
def fW(τ:Ty):D→Option (den τ)
 | .zU σ x=>vW x
 | .tight e l _=>vW (a:=.sl e) l
 | .xw=>match τ with | .sl e=>some ([]:List (den e)) | _=>none
 | _=>none
def jE:(τ:Ty)→List D→Option (den τ×List D)
 | .int k,d::r=>match fW (.int k) d with | some x=>some (x,r) | none=>none
 | .bool,d::r=>match fW .bool d with | some x=>some (x,r) | none=>none
 | .str,d::r=>match fW .str d with | some x=>some (x,r) | none=>none
 | .sl e,d::r=>match fW (.sl e) d with | some x=>some (x,r) | none=>none
 | .nil,r=>some ((),r)
 | .cons a b,r=>match jE a r with
  | some (x,r')=>match jE b r' with | some (y,r'')=>some ((x,y),r'') | none=>none
  | none=>none
 | .expr,[]=>none
 | .expr,d::r=>match fW i64 d with
  | none=>none
  | some k=>match r with
   | d1::d2::d3::d4::d5::r' =>
    match fW .bool d1,fW (.sl u32) d2,fW (.sl u32) d3,fW .str d4,fW (.sl .expr) d5 with
    | some a,some n,some m,some s,some l=>some (Expr.mk k (a,n,m,()) s l,r')
    | _,_,_,_,_=>none
   | _=>none
 | _,[]=>none
def dX(τ:Ty)(d:D):Option (den τ) :=
 match d with
 | .zU σ x=>vW x
 | d=>bif (d.isAgg==τ.isAgg) && !d.uE then match jE τ (qt d)with
   | some (x,[])=>some x
   | _=>none
  else none
def rf(st:St):D→T D
 | .ms b qY e off len=>match st[b]? with
  | some (.arr kT e' xs)=>if h:e'=e then .zd (qY=kT) (.ret (.zU (.sl e) (h▸((xs.take (off+len)).drop off:List (den e')))))else .fail
  | _=>.fail
 | d=>.ret d
def H4(st:St):List D→T (List D)
 | []=>.ret []
 | d::r=>(rf st d).bind fun x=>(H4 st r).bind fun l=>.ret (x::l)
def snap(st:St):D→T D
 | .agg cs=>(H4 st cs).bind fun l=>.ret (.agg l)
 | d=>rf st d
def QQ(st:St)(τ:Ty)(d:D):T (den τ):=(snap st d).bind fun x=>.U7 (dX τ x)
def JA:D→Bool | .ms .. => true | _=>false
inductive cN where
 | val (t:T (Option D))
 | rd (k:St→T (Option D))
 | wr (k:St→T (Option D×St))
def val(d:D):cN:=.val (.ret (some d))
def z1W(d:Option D):cN:=match d with | some d=>.val (.ret (some d)) | none=>.val .fail
def bad:cN:=.val .fail
def z4L(t:Nat):Bool:=match c.P.underlying t with
 | some (.struct fs)=>match fs[0]? with
  | some fd=>match c.P.underlying fd.type with | some (.pointer e)=>Nat.beq e t | _=>false
  | none=>false
 | _=>false
def Re(t:Nat)(d:D):D:=match d with
 | .agg (.yI::r)=>bif z4L c t then .agg (.dp t::r)else .agg (.yI::r)
 | d=>d
def VT(t:Nat):Option D:=match c.P.info? t with
 | some i=>match i.zero with | some z=>(match VH z with | some d=>some (Re c t d) | none=>none) | none=>none
 | none=>none
def YZ(l:List D)(off n:Nat):Option (List D) :=
 bif Nat.ble (off+n) l.length then some ((l.drop off).take n)else none
def I9(t:Nat)(d:D)(off:Nat):Option D :=
 match DM c t with
 | some true=>match me c t with
  | none=>none
  | some n=>bif (Nat.beq off 0)&&Nat.beq n (qt d).length&&d.zdr then some d
   else match YZ (qt d) off n with | some l=>some (.agg l) | none=>none
 | some false=>(qt d)[off]?
 | none=>none
def Dv(t:Nat)(d:D)(off:Nat)(x:D):Option D :=
 match me c t with
 | none=>none
 | some n=>bif Nat.blt 0 n&&Nat.beq n (qt x).length&&Nat.ble (off+n) (qt d).length then
   bif Nat.beq n (qt d).length then some x
   else some (.agg ((qt d).take off++qt x++(qt d).drop (off+n)))
  else none
def Kk(t:Nat)(a:Option D):cN:=match a with
 | some (.xx τ x)=>bif kW c t τ then val (.zU τ x)else bad
 | some (.ptr b off)=>.rd fun st=>match st[b]? with
  | some (.var d)=>match I9 c t d off with | some r=>.ret (some r) | none=>.fail
  | _=>.fail
 | some (.uC b qY e idx off)=>.rd fun st=>match st[b]? with
  | some (.arr kT e' xs)=>bif decide (e'=e)then
    .zd (qY=kT∧idx<xs.length) (match I9 c t (.zU e' (xs.getD idx (zb e'))) off with | some r=>.ret (some r) | none=>.fail)
   else .fail
  | _=>.fail
 | _=>bad
def UY(t:Nat)(a:Option D)(v:Option D):cN:=match a,v with
 | some (.ptr b off),some x=>.wr fun st=>match st[b]? with
  | some (.var d)=>match Dv c t d off x with | some r=>bif nV d r then .ret (none,st.set b (.var r))else .fail | none=>.fail
  | _=>.fail
 | some (.uC b qY e idx off),some x=>.wr fun st=>match st[b]? with
  | some (.arr kT e' xs)=>bif decide (e'=e)then
    .zd (qY=kT∧idx<xs.length) (match Dv c t (.zU e' (xs.getD idx (zb e'))) off x with
     | some r=>match dX e' r with | some y=>.ret (none,st.set b (.arr kT e' (xs.set idx y))) | none=>.fail
     | none=>.fail)
   else .fail
  | _=>.fail
 | _,_=>bad
def sR:(τ:Ty)→den τ→Nat→Option (D×Nat×Nat)
 | .cons a _,x,0=>some (.xx a x.1,0,a.size)
 | .cons a b,x,n+1=>match sR b x.2 n with | some (d,o,s)=>some (d,a.size+o,s) | none=>none
 | .expr,x,0=>some (.xx i64 x.kind,0,1)
 | .expr,x,1=>some (.xx Gw x.num,1,3)
 | .expr,x,2=>some (.xx .str x.name,4,1)
 | .expr,x,3=>some (.xx (.sl .expr) x.kids,5,1)
 | _,_,_=>none
def UM(s f:Nat):Option (Nat×Nat):=match c.P.underlying s with
 | some (.struct fs)=>match fs[f]? with
  | some fd=>match me c fd.type with | some n=>bif Nat.beq n 0 then none else some (fd.offset,n) | none=>none
  | none=>none
 | _=>none
def sF(s f:Nat)(a:Option D):cN:=match UM c s f with
 | none=>bad
 | some (o,n)=>match a with
  | some (.xx τ x)=>match sR τ x f with
   | some (d,o',n')=>bif Nat.beq o o'&&Nat.beq n n' then val d else bad
   | none=>bad
  | some (.ptr b off)=>val (.ptr b (off+o))
  | some (.uC b qY e idx off)=>val (.uC b qY e idx (off+o))
  | _=>bad
def Bj(s f:Nat)(a:Option D):cN:=match c.P.underlying s with
 | some (.struct fs)=>match fs[f]? with
  | some fd=>match a with
   | some d=>z1W (bif d.eH then I9 c fd.type d fd.offset else none)
   | none=>bad
  | none=>bad
 | _=>bad
def asInt:Option D→Option (IntKind×Int)
 | some (.zU (.int k) n)=>some (k,n)
 | _=>none
def JG:Option D→Option zf
 | some (.zU .str s)=>some s
 | _=>none
def asBool:Option D→Option Bool
 | some (.zU .bool b)=>some b
 | _=>none
def lR(t:Nat):Option Nat:=match c.P.underlying t with | some (.slice e)=>some e | _=>none
def z8j(t:Nat):Option (Nat×Nat):=match c.P.underlying t with | some (.array n e)=>some (n,e) | _=>none
def Yn(t:Nat)(x:Option D)(i:Int):cN:=match z8j c t,x with
 | some (n,et),some (.xx τ y)=>match DH τ with
  | some (e,m)=>bif kW c et e&&Nat.beq n m then .val (.zd (0≤i∧i<(n:Int)) (.ret (some (.xx e (Cu e τ y i.toNat)))))else bad
  | none=>bad
 | _,_=>bad
def sn(t:Nat)(x i:Option D):cN:=match lR c t,asInt i with
 | none,some (_,i)=>Yn c t x i
 | some et,some (_,i)=>match x with
  | some (.zU (.sl e) l)=>bif kW c et e then .val (.zd (0≤i∧i<(List.length l:Int)) (.ret (some (.xx e (List.getD l i.toNat (zb e))))))else bad
  | some (.tight e l _)=>bif kW c et e then .val (.zd (0≤i∧i<(List.length l:Int)) (.ret (some (.xx e (List.getD l i.toNat (zb e))))))else bad
  | some (.ms b qY e off len)=>bif kW c et e then .val (.zd (0≤i∧i<(len:Int)) (.ret (some (.uC b qY e (off+i.toNat) 0))))else bad
  | _=>bad
 | _,_=>bad
def Bq(t:Nat)(x i:Option D):cN:=match asInt i,JG x,c.P.underlying t with
 | some (_,i),some s,some .string=>.val (.zd (0≤i∧i<(List.length s:Int)) (.ret (some (.zU (.int .u8) ((List.getD s i.toNat 0).toNat:Int)))))
 | _,_,_=>bad
def OJ(d:Int):Option (Option D)→Option Int
 | none=>some d
 | some x=>match asInt x with | some (_,i)=>some i | none=>none
def bS(l h:Int)(s:zf):zf:=(s.take h.toNat).drop l.toNat
def uz{e:Ty}(l h:Int)(s:List (den e)):List (den e):=(s.take h.toNat).drop l.toNat
def HM(t:Nat)(x:Option D)(lo hi mx:Option (Option D)):cN:=match x with
 | some (.zU .str s)=>match c.P.underlying t,mx,OJ 0 lo,OJ (List.length s) hi with
  | some .string,none,some l,some h=>.val (.zd (0≤l∧l≤h∧h≤(List.length s:Int)) (.ret (some (.zU .str (bS l h s)))))
  | _,_,_,_=>bad
 | some (.zU (.sl e) s)=>match lR c t,OJ 0 lo,OJ (List.length s) hi with
  | some et,some l,some h=>bif kW c et e then match mx with
    | none=>.val (.zd (0≤l∧l≤h∧h≤(List.length s:Int)) (.ret (some (.zU (.sl e) (uz l h s)))))
    | some m=>match asInt m with
     | some (_,m)=>bif hi.isSome then .val (.zd (0≤l∧l≤h∧h=m∧h≤(List.length s:Int)) (.ret (some (.tight e (uz l h s) false))))else bad
     | none=>bad
   else bad
  | _,_,_=>bad
 | some (.tight e s _)=>match lR c t,mx,OJ 0 lo,OJ (List.length s) hi with
  | some et,none,some l,some h=>bif kW c et e then .val (.zd (0≤l∧l≤h∧h≤(List.length s:Int)) (.ret (some (.zU (.sl e) (uz l h s)))))else bad
  | _,_,_,_=>bad
 | some (.ms b qY e off len)=>match lR c t,mx,OJ 0 lo,OJ len hi with
  | some et,none,some l,some h=>bif kW c et e then .val (.zd (0≤l∧l≤h∧h≤(len:Int)) (.ret (some (.ms b qY e (off+l.toNat) (h.toNat-l.toNat)))))else bad
  | _,_,_,_=>bad
 | _=>bad
def ib(k:IntKind)(n:Int):cN:=val (.zU (.int k) n)
def bb(b:Bool):cN:=val (.zU .bool b)
def nU(k:IntKind)(f:BitVec k.bits→BitVec k.bits→BitVec k.bits)(x y:Int):Int:=k.wrap (f (BitVec.ofInt k.bits x) (BitVec.ofInt k.bits y)).toNat
def xZ(k:IntKind)(a b:Int):Int:=k.wrap (a*2 ^ (min b.toNat k.bits))
def xc(k:IntKind)(a b:Int):Int:=Int.fdiv a (2 ^ (min b.toNat k.bits))
def Ey(op:BinOp)(k:IntKind)(a b:Int):cN:=match op with
 | .add=>ib k (k.wrap (a+b))
 | .sub=>ib k (k.wrap (a-b))
 | .mul=>ib k (k.wrap (a*b))
 | .quo=>.val (.zd (b≠0) (.ret (some (.zU (.int k) (k.wrap (a.tdiv b))))))
 | .rem=>.val (.zd (b≠0) (.ret (some (.zU (.int k) (a.tmod b)))))
 | .and=>ib k (nU k (· &&& ·) a b)
 | .or=>ib k (nU k (· ||| ·) a b)
 | .xor=>ib k (nU k (· ^^^ ·) a b)
 | .eql=>bb (a==b)
 | .neq=>bb (a != b)
 | .lss=>bb (decide (a<b))
 | .leq=>bb (decide (a≤b))
 | .gtr=>bb (decide (b<a))
 | .geq=>bb (decide (b≤a))
 | _=>bad
def zM(a b:zf):Bool:=a==b
def strLt(a b:zf):Bool:=Op.bytesLess a b
def cat(a b:zf):zf:=a++b
def FN(op:BinOp)(a b:zf):cN:=match op with
 | .add=>.val (.zd (a.length+b.length≤4611686018427387904) (.ret (some (.zU .str (cat a b)))))
 | .eql=>bb (zM a b)
 | .neq=>bb (!zM a b)
 | .lss=>bb (strLt a b)
 | .leq=>bb (strLt a b||zM a b)
 | .gtr=>bb (!(strLt a b||zM a b))
 | .geq=>bb (!strLt a b)
 | _=>bad
def z0F(op:BinOp)(a b:Bool):cN:=match op with
 | .eql=>bb (a==b)
 | .neq=>bb (!(a==b))
 | _=>bad
def J9:BinOp→Bool
 | .shl | .shr=>true
 | _=>false
def F7(op:BinOp)(t:Nat)(x y:Option D):cN:=match asInt x,asInt y with
 | some (k,a),some (k',b)=>match op with
  | .shl=>.val (.zd (0≤b) (.ret (some (.zU (.int k) (xZ k a b)))))
  | .shr=>.val (.zd (0≤b) (.ret (some (.zU (.int k) (xc k a b)))))
  | op=>bif decide (k=k')then Ey op k a b else bad
 | _,_=>match JG x,JG y with
  | some a,some b=>bif J9 op then bad else FN op a b
  | _,_=>match c.P.underlying t,asBool x,asBool y with
   | some .bool,some a,some b=>z0F op a b
   | _,_,_=>bad
def BB(op:BinOp)(t:Nat)(x:Option D):cN:=match c.P.underlying t with
 | some (.interface _)=>match op,x with
  | .eql,some .wb=>bb true
  | .eql,some (.iface _ _)=>bb false
  | .neq,some .wb=>bb false
  | .neq,some (.iface _ _)=>bb true
  | _,_=>bad
 | _=>bad
def ox(x:Option D)(at':Nat)(ok:Bool):cN:=match c.P.underlying at' with
 | some (.interface _)=>bad
 | none=>bad
 | some _=>match x with
  | some (.iface t d)=>bif Nat.beq t at'&&ok then val (.gK [d,.zU .bool true])else bad
  | _=>bad
def Fk(op:BinOp)(t:Nat)(p:Operand)(x y:Option D):cN:=match p with
 | .const .nilIface=>BB c op t x
 | _=>F7 c op t x y
def S7(op:UnOp)(x:Option D):cN:=match op with
 | .neg=>match asInt x with | some (k,n)=>ib k (k.wrap (0-n)) | none=>bad
 | .not=>match asBool x with | some b=>bb (!b) | none=>bad
 | .xor=>match asInt x with | some (k,n)=>ib k (nU k (· ^^^ ·) (if k.signed then -1 else k.max) n) | none=>bad
 | _=>bad
def byteOf(n:Int):UInt8:=UInt8.ofNat n.toNat
def Cn(e:Ty):D→Option (List (den e))
 | .zU σ y=>vW (a:=σ) (b:=.sl e) y
 | .tight e' y _=>vW (a:=.sl e') (b:=.sl e) y
 | .xw=>some []
 | _=>none
def qV(l:List Int):zf:=l.map byteOf
def V5(e:Nat)(x:Option D):cN:=match c.P.underlying e,x with
 | some (.int .u8),some d=>.rd fun st=>(rf st d).bind fun y=>match Cn (.int .u8) y with
  | some l=>.ret (some (.zU .str (qV l)))
  | none=>.fail
 | _,_=>bad
def convertOp(s t:Nat)(x:Option D):cN:=match c.P.underlying s,c.P.underlying t with
 | some (.slice e),some .string=>V5 c e x
 | some (.int _),some (.int k)=>match asInt x with | some (_,n)=>ib k (k.wrap n) | none=>bad
 | some .string,some .string=>match JG x with | some s=>val (.zU .str s) | none=>bad
 | _,_=>bad
def S6(t:Nat)(x:Option D):cN:=match c.P.underlying t with
 | some (.slice _)=>match x with
  | some (.zU (.sl _) l)=>ib .i64 (List.length l)
  | some (.tight _ l _)=>ib .i64 (List.length l)
  | some .xw=>ib .i64 0
  | some (.ms _ _ _ _ len)=>ib .i64 (len:Nat)
  | _=>bad
 | some .string=>match JG x with
  | some s=>ib .i64 (List.length s)
  | none=>bad
 | _=>bad
def ex(e:Ty){e':Ty}(xs:List (den e')):Option (List (den e)):=vW (a:=.sl e') (b:=.sl e) xs
def np(e:Ty)(l ys:List (den e))(bytes:Nat)(st:St):T (Option D×St) :=
 .zd ((l.length+ys.length)*bytes≤140737488355328) (.ret (some (.ms st.length (l.length+ys.length) e 0 (l.length+ys.length)),st++[.arr (l.length+ys.length) e (l++ys)]))
def jZ(e:Ty)(s:D)(ys:List (den e))(ne:Bool)(bytes:Nat)(st:St):T (Option D×St):=match s with
 | .xw=>bif ne then np e [] ys bytes st else .ite ys.isEmpty (.ret (some s,st)) (np e [] ys bytes st)
 | .tight e' l _=>match ex e l with
  | some l=>bif ne then np e l ys bytes st else .ite ys.isEmpty (.ret (some s,st)) (np e l ys bytes st)
  | none=>.fail
 | .ms b qY e' off len=>match st[b]? with
  | some (.arr kT e'' xs)=>match ex e xs with
   | some xs=>bif decide (e'=e)then .zd (qY=kT∧off=0∧len=xs.length∧(xs.length+ys.length)*bytes≤140737488355328)
     (.ret (some (.ms b (qY+ys.length) e 0 (len+ys.length)),st.set b (.arr (qY+ys.length) e (xs++ys))))else .fail
   | none=>.fail
  | _=>.fail
 | _=>.fail
def zeroOf(et:Nat)(e:Ty):Option (den e):=match VT c et with | some z=>dX e z | none=>none
def XW(t:Nat)(s x:Option D):cN:=match lR c t with
 | none=>bad
 | some et=>match BF c 20 et,oY c et with
  | some e,some bytes=>bif kW c et e&&Nat.blt 0 e.size&&Nat.blt 0 bytes&&(zeroOf c et e).isSome then match s,x with
    | some s,some x=>.wr fun st=>(rf st x).bind fun x=>match x with
     | .zU _ y=>match(vW y:Option (den (.sl e)))with
      | some ys=>jZ e s ys false bytes st
      | none=>.fail
     | .tight _ y ne=>match ex e y with
      | some ys=>jZ e s ys ne bytes st
      | none=>.fail
     | .xw=>jZ e s [] false bytes st
     | _=>.fail
    | _,_=>bad
   else bad
  | _,_=>bad
def bytesOf(s:zf):List Int:=s.map fun b=>((b.toNat:Nat):Int)
def Zc(t t':Nat)(s x:Option D):cN:=match lR c t with
 | none=>bad
 | some et=>match BF c 20 et,oY c et,c.P.underlying t' with
  | some (.int .u8),some bytes,some .string=>bif kW c et (.int .u8)&&Nat.blt 0 bytes&&(zeroOf c et (.int .u8)).isSome then match s,x with
    | some s,some (.zU .str l)=>.wr fun st=>jZ (.int .u8) s (bytesOf l) false bytes st
    | _,_=>bad
   else bad
  | _,_,_=>bad
def FO(t:Nat)(n m:Option D):cN:=match lR c t,asInt n,asInt m with
 | some et,some (_,n),some (_,m)=>match BF c 20 et,oY c et with
  | some e,some bytes=>match zeroOf c et e with
   | some z=>bif kW c et e&&Nat.blt 0 e.size then
     .wr fun st=>.zd (0≤n∧n≤m∧m*bytes≤140737488355328∧m≤140737488355328) (.ret (some (.ms st.length n.toNat e 0 n.toNat),st++[.arr n.toNat e (List.replicate n.toNat z)]))
    else bad
   | none=>bad
  | _,_=>bad
 | _,_,_=>bad
def GC(e:Ty):Nat→List (Nat×Option D)→Option (List (den e))
 | _,[]=>some []
 | i,(j,some d)::r=>bif Nat.beq i j then match dX e d,GC e (i+1) r with
   | some x,some l=>some (x::l)
   | _,_=>none
  else none
 | _,_=>none
def nR(t n:Nat)(ps:List (Nat×Option D)):cN:=match lR c t with
 | none=>bad
 | some et=>match BF c 20 et with
  | some e=>bif kW c et e&&Nat.beq n ps.length&&Nat.ble n 1000&&Nat.ble e.size 100&&(zeroOf c et e).isSome then match GC e 0 ps with
    | some l=>bif Nat.beq n 0&&Nat.blt 0 e.size then .wr fun st=>.ret (some (.ms st.length 0 e 0 0),st++[.arr 0 e []])else val (.tight e l (!Nat.beq n 0))
    | none=>bad
   else bad
  | none=>bad
def ic(places:List (Nat×Nat)):List (Nat×Option D)→List D→Option (List D)
 | [],cells=>some cells
 | (i,some d)::r,cells=>match places[i]? with
  | some (off,n)=>bif !d.uE&&Nat.beq n (qt d).length&&Nat.ble (off+n) cells.length then
     ic places r (cells.take off++qt d++cells.drop (off+n))else none
  | none=>none
 | _,_=>none
def Bo(t:Nat)(ps:List (Nat×Option D)):cN:=match c.P.underlying t with
 | some (.struct fs)=>match VT c t,fs.toList.mapM (fun f=>(c.P.info? f.type).map fun i=>(f.offset,i.size))with
  | some (.agg z),some places=>match ic places ps z with
   | some l=>val (.agg l)
   | none=>bad
  | _,_=>bad
 | some (.array k e)=>match VT c t,c.P.info? e with
  | some (.agg z),some ie=>match ic ((List.range k).map fun i=>(i*ie.size,ie.size)) ps z with
   | some l=>val (.agg l)
   | none=>bad
  | _,_=>bad
 | _=>bad
def WE(x:Option D)(i:Nat):cN:=match x with
 | some (.gK vs)=>z1W vs[i]?
 | _=>bad
def gq:List D→D
 | [d]=>d
 | ds=>.gK ds
def Ty.scalar:Ty→Bool
 | .int _ | .bool | .str=>true
 | .cons a b=>a.scalar&&b.scalar
 | .nil=>true
 | _=>false
def tV:D→Bool
 | .zU τ _=>τ.scalar
 | _=>false
def pS(st:St)(τ:Ty):D→T D
 | .xx _ x=>match(vW x:Option (den τ))with | some y=>.ret (.xx τ y) | none=>.fail
 | .ptr b off=>match st[b]? with
  | some (.var d)=>match bif Nat.beq off 0 then dX τ d else none with | some y=>.ret (.xx τ y) | none=>.fail
  | _=>.fail
 | _=>.fail
def tg(st:St):WB→D→T D
 | .im τ,d=>(QQ st τ d).bind fun x=>.ret (.zU τ x)
 | .rp τ,d=>pS st τ d
def cV(st:St):List WB→List D→T (List D)
 | [],[]=>.ret []
 | p::r,d::ds=>(tg st p d).bind fun x=>(cV st r ds).bind fun l=>.ret (x::l)
 | _,_=>.fail
def C4(st:St):QL→D→T D
 | .ty τ,d=>(QQ st τ d).bind fun x=>.ret (.zU τ x)
 | .rp τ,d=>pS st τ d
 | .xr f caps,.xr f' l=>bif Nat.beq f f' then(cV st caps l).bind fun l=>.ret (.xr f l)else .fail
 | _,_=>.fail
def pJ(st:St):List QL→List D→T (List D)
 | [],[]=>.ret []
 | p::r,d::ds=>(C4 st p d).bind fun x=>(pJ st r ds).bind fun l=>.ret (x::l)
 | _,_=>.fail
def z5K:D→Bool | .ptr .. => true | _=>false
def Kt:D→Bool
 | .agg cs=>cs.any JA
 | .xr _ l=>l.any fun d=>JA d||z5K d
 | .ptr .. => true
 | d=>JA d
def Rq(r:HV×St):T (Option D):=match r with
 | (.ret ds,[])=>.ret (some (gq ds))
 | _=>.fail
def tK(r:HV×St):T (Option D):=match r with
 | (.ret ds,[])=>bif ds.all tV then .ret (some (gq ds))else .fail
 | _=>.fail
def bq(g:Nat)(s:Sig)(args:List D):cN :=
 bif !(args.any Kt)then .val ((pJ [] s.params args).bind fun l=>(c.fn g l []).bind Rq)
 else .rd fun st=>(pJ st s.params args).bind fun l=>(c.fn g l []).bind tK
def Z8(g:Nat)(args:List D):cN:=.wr fun st=>(c.fn g args st).bind fun r=>match r.1 with
 | .ret ds=>.ret (some (gq ds),r.2)
 | .cg _=>.fail
def eP(g:Nat):Nat:=bif Nat.ble 1000000 g then g % 1000000 else g
def cw{α:Type}(g:Nat)(l caps:List α):List α:=bif Nat.ble 1000000 g then caps++l else l++caps
def eF(f:Option D)(args:List (Option D)):cN:=match f,jJ args with
 | some (.xr g caps),some l=>match c.sig (eP g) (cw g l caps)with
  | some s=>bq c (eP g) s (cw g l caps)
  | none=>Z8 c (eP g) (cw g l caps)
 | _,_=>bad
def wT(a b:Int):Int:=if b<a then b else a
def wc(a b:Int):Int:=if a<b then b else a
def JL(f:Int→Int→Int)(args:List (Option D)):cN:=match args with
 | [x,y]=>match asInt x,asInt y with
  | some (k,a),some (k',b)=>bif decide (k=k')then ib k (f a b)else bad
  | _,_=>bad
 | _=>bad
def ym{α:Type}(off len:Nat)(xs l:List α):List α:=xs.take off++l.take len++xs.drop (off+min len l.length)
def Tn(k:IntKind)(b qY off len:Nat)(l:List Int)(st:St):T (Option D×St):=match st[b]? with
 | some (.arr kT e' xs)=>match ex (.int k) xs with
  | some xs=>.zd (qY=kT∧off+len≤List.length xs) (.ret (some (.zU i64 ((min len l.length:Nat):Int)),st.set b (.arr kT (.int k) (ym off len xs l))))
  | none=>.fail
 | _=>.fail
def Ij(t:Nat)(s x:Option D):cN:=match lR c t with
 | some et=>match c.P.underlying et,me c et,s,x with
  | some (.int k),some 1,some (.ms b qY (.int k') off len),some d=>bif decide (k'=k)then .wr fun st=>(rf st d).bind fun y=>match Cn (.int k) y with
    | some l=>Tn k b qY off len l st
    | none=>.fail
   else bad
  | _,_,_,_=>bad
 | none=>bad
def mV(b:Builtin)(ts:List Nat)(args:List (Option D)):cN:=match b,ts,args with
 | .len,t::_,x::_=>S6 c t x
 | .append,[t,t'],[s,x]=>bif Nat.beq t t' then XW c t s x else Zc c t t' s x
 | .copy,[t,_],[s,x]=>Ij c t s x
 | .min,_,args=>JL wT args
 | .max,_,args=>JL wc args
 | _,_,_=>bad
def yn(fr:Fr):Operand→Option D
 | .tmp t=>fr.get t
 | .const v=>VH v
 | .global _=>none
 | .func f=>bif Nat.blt f 1000000 then some (.xr f [])else none
def Qq(x:Option D):cN:=match x with
 | some (.ptr b o)=>val (.ptr b o)
 | some (.xx τ x)=>val (.xx τ x)
 | some (.uC b v e i o)=>val (.uC b v e i o)
 | some (.xr f l)=>val (.xr f l)
 | _=>bad
def EP(x a b:Option D):cN:=match asBool x with
 | some x=>.val (.ite x (.ret a) (.ret b))
 | none=>bad
def sX(t:Nat)(x:Option D):cN:=match c.P.underlying t with
 | some (.interface _) | none=>bad
 | some _=>match x with | some d=>val (.iface t d) | none=>bad
def SQ(x:Option D):cN:=match x with
 | some d=>bif d.uE||d.typed.isSome then bad else .wr fun st=>.ret (some (.ptr st.length 0),st++[.var d])
 | none=>bad
def z0g(t:Nat)(x:Option D):cN:=match x with
 | some (.zU τ x)=>val (.xx τ x)
 | some d=>match BF c 20 t with
  | some τ=>match dX τ d with | some x=>val (.xx τ x) | none=>bad
  | none=>bad
 | none=>bad
def zcY:Option Nat→Bool
 | some s=>c.ro s
 | none=>false
def Sp(t:Nat)(dst:Option Nat)(x:Option D):cN:=bif zcY c dst then z0g c t x else SQ x
def o5(t:Nat):cN:=match VT c t with
 | some d=>.wr fun st=>.ret (some (.ptr st.length 0),st++[.var d])
 | none=>bad
def xg(ρ:Operand→Option D)(o:Oper):cN:=match o.op with
 | .move x | .assign x=>.val (.ret (ρ x))
 | .pick x a b=>EP (ρ x) (ρ a) (ρ b)
 | .alloc t=>o5 c t
 | .box t x=>Sp c t o.dst (ρ x)
 | .load t a=>Kk c t (ρ a)
 | .store t a v=>UY c t (ρ a) (ρ v)
 | .nilCheck x=>Qq (ρ x)
 | .binOp op t x y _=>Fk c op t y (ρ x) (ρ y)
 | .typeAssert x _ t ok=>ox c (ρ x) t ok
 | .unOp op _ x=>S7 op (ρ x)
 | .convert s t x=>convertOp c s t (ρ x)
 | .makeInterface t x=>sX c t (ρ x)
 | .makeFunc (.func f) first cap=>bif Nat.beq first.size 0&&Nat.blt f 1000000 then match jJ (cap.toList.map ρ)with | some l=>val (.xr f l) | none=>bad
   else bif Nat.beq cap.size 0&&Nat.blt f 1000000 then match jJ (first.toList.map ρ)with | some l=>val (.xr (f+1000000) l) | none=>bad else bad
 | .makeSlice t l m=>FO c t (ρ l) (ρ m)
 | .slice t x lo hi mx=>HM c t (ρ x) (lo.map ρ) (hi.map ρ) (mx.map ρ)
 | .fieldAddr s x f=>sF c s f (ρ x)
 | .field s x f=>Bj c s f (ρ x)
 | .indexAddr t x i=>sn c t (ρ x) (ρ i)
 | .index t x i=>Bq c t (ρ x) (ρ i)
 | .extract x i=>WE (ρ x) i
 | .build t ps=>Bo c t (ps.toList.map fun p=>(p.1,ρ p.2))
 | .buildSlice t n ps=>nR c t n (ps.toList.map fun p=>(p.1,ρ p.2))
 | .call cl=>match cl.callee with
  | .builtin b=>mV c b cl.argTypes.toList (cl.args.toList.map ρ)
  | .value f=>eF c (ρ f) (cl.args.toList.map ρ)
  | .invoke _ _=>bad
 | _=>bad
def zX:cN→St→T (Option D×St)
 | .val t,st=>t.bind fun d=>.ret (d,st)
 | .rd k,st=>(k st).bind fun d=>.ret (d,st)
 | .wr k,st=>k st
end ops
end Go.AM
namespace Go.AM
def cN.kind:cN→Nat
 | .val _=>0
 | .rd _=>1
 | .wr _=>2
def uS(ops:Array Oper)(j:Nat):Option Nat:=match ops[j]? with | some o=>o.dst | none=>none
def Ox:D:=.gK []
def vV(n:Nat):Option Nat→Bool
 | some t=>Nat.blt t n
 | none=>true
section
variable (c:Ctx)
variable [Zk]
def dZ(kn:Kn):Operand→Option Bool
 | .tmp t=>kn.get t
 | .const (.bool b)=>some b
 | _=>none
def Jz(kn:Kn):Op→Option Bool
 | .move x | .assign x=>dZ kn x
 | .pick x a b=>match dZ kn x with
  | some true=>dZ kn a
  | some false=>dZ kn b
  | none=>none
 | _=>none
def pT(kn:Kn)(fr:Fr)(o:Oper):cN:=match o.op with
 | .pick x a b=>match dZ kn x with
  | some true=>.val (.ret (yn fr a))
  | some false=>.val (.ret (yn fr b))
  | none=>xg c (yn fr) o
 | _=>xg c (yn fr) o
def K4(kn:Kn)(dst:Option Nat)(b:Option Bool):Kn:=match dst with | some t=>(t,b)::kn | none=>kn
inductive RK where
 | z (k:Nat) | rd (b:Nat) | wr (free:List Nat) | up (b:Nat)
def RK.base:RK→Nat
 | .z k=>k
 | .rd _=>1
 | .wr _=>2
 | .up _=>2
def others(n:Nat)(l:List Nat):List Nat:=(List.range n).filter fun b => !(l.any (Nat.beq b))
def z8e(d:Option D):Option Nat:=match d with
 | some d=>match d with
  | .ptr b _=>some b
  | .uC b _ _ _ _=>some b
  | _=>none
 | none=>none
def Mt(bi:Builtin)(l:List (Option D)):RK:=match bi with
 | .append=>match l with | [some (.ms b _ _ _ _),some x]=>bif JA x then .z 2 else .up b | _=>.z 2
 | _=>.z 2
def wA(ρ:Operand→Option D)(st:St)(o:Oper):RK:=match(xg c ρ o).kind with
 | 1=>match o.op with
  | .load _ a=>match z8e (ρ a)with | some b=>.rd b | none=>.z 1
  | _=>.z 1
 | 2=>match o.op with
  | .alloc _=>.wr (others st.length [])
  | .store _ a _=>match z8e (ρ a)with | some b=>.up b | none=>.z 2
  | .call cl=>match cl.callee with
   | .value f=>match ρ f,jJ (cl.args.toList.map ρ)with | some (.xr g caps),some l=>.wr (c.free (eP g) (cw g l caps) st) | _,_=>.z 2
   | .builtin bi=>Mt bi (cl.args.toList.map ρ)
   | _=>.z 2
  | _=>.z 2
 | k=>.z k
structure fE where
 fr:Fr
 kn:Kn
 st:St
 ks:List Nat      -- kinds of what has run,the last first
 bk:List RK
def gW(n:Nat)(o:Oper)(s:fE):T fE :=
 bif vV n o.dst then
  let cl:=pT c s.kn s.fr o
  (zX cl s.st).bind fun r=>.ret ⟨s.fr.put o.dst r.1,K4 s.kn o.dst (Jz s.kn o.op),r.2,cl.kind::s.ks,wA c (yn s.fr) s.st o::s.bk⟩
 else .fail
def jC(o:Oper)(s:fE):fE:=⟨s.fr.put o.dst (some Ox),K4 s.kn o.dst none,s.st,0::s.ks,.z 0::s.bk⟩
def fE.cf(s:fE)(t:Nat)(b:Bool):fE:={ s with kn:=(t,some b)::s.kn }
def stepG(n:Nat)(ops:Array Oper)(o:Oper)(s:fE):T fE:=match o.guard with
 | none=>gW c n o s
 | some (j,want)=>match uS ops j with
  | none=>.fail
  | some t=>match s.kn.get t with
   | some b=>bif b==want then gW c n o s else bif vV n o.dst then .ret (jC o s)else .fail
   | none=>match s.fr.get t with
    | some (.zU .bool x)=>bif vV n o.dst then
      .ite x (bif want then gW c n o (s.cf t true)else .ret (jC o (s.cf t true)))
          (bif want then .ret (jC o (s.cf t false))else gW c n o (s.cf t false))
     else .fail
    | some (.gK [])=>bif vV n o.dst then .ret (jC o s)else .fail
    | _=>.fail
def nK(n:Nat)(ops:Array Oper):List Oper→fE→T fE
 | [],s=>.ret s
 | o::l,s=>(stepG c n ops o s).bind fun s'=>nK n ops l s'
def tmpsOf(ops:Array Oper)(o:Oper):List Nat :=
 (match o.dst with | some d=>[d] | none=>[]) ++
 (match o.guard with | some (j,_)=>(match uS ops j with | some s=>[s] | none=>[]) | none=>[]) ++
 o.op.operands.toList.filterMap fun | .tmp t=>some t | _=>none
def xE(l:List Oper):List Nat→List Nat
 | acc=>match l with
  | []=>acc
  | o::r=>xE r (acc++[o.after.toList.foldl (fun s e=>bif Region.binds .any e then s ||| 2 ^ e.on ||| acc.getD e.on 0 else s) 0])
def ordered(bs:List Nat)(i j:Nat):Bool:=Nat.testBit (bs.getD j 0) i
def uF(k l:Nat):Bool:=(Nat.beq k 2 && !Nat.beq l 0)||(Nat.beq l 2 && !Nat.beq k 0)
def Fc{K:Type}(cl:K→K→Bool)(bs:List Nat)(xs:List (Nat×Option Nat×List Nat×K))(j:Nat)(dj:Option Nat)(tj:List Nat)(kj:K):Bool :=
 xs.all fun x=>ordered bs x.1 j||(!(match x.2.1 with | some d=>tj.contains d | none=>false) && !(match dj with | some d=>x.2.2.1.contains d | none=>false) && !cl x.2.2.2 kj)
def oF{K:Type}(cl:K→K→Bool)(ops:Array Oper)(bs:List Nat):List Oper→List K→Nat→List (Nat×Option Nat×List Nat×K)→Bool
 | [],_,_,_=>true
 | o::l,k::ks,j,xs=>let tj:=tmpsOf ops o; Fc cl bs xs j o.dst tj k&&oF cl ops bs l ks (j+1) ((j,o.dst,tj,k)::xs)
 | _,_,_,_=>false
def bT:List Oper→Nat→Bool
 | [],_=>true
 | o::l,j=>o.after.toList.all (fun e => !Region.binds .any e||Nat.blt e.on j)&&bT l (j+1)
def M8(ops:Array Oper)(ks:List Nat):Bool :=
 let l:=ops.toList
 bT l 0&&oF uF ops (xE l []) l ks 0 []
def Vd(o:Oper):Bool:=(match o.op with | .alloc _=>true | _=>false)&&o.guard.isNone&&o.dst.isSome
def Jk:List Oper→List Nat→List Nat
 | o::l,k::ks=>(bif Vd o then 3 else k)::Jk l ks
 | _,_=>[]
def sC(k l:Nat):Bool:=bif Nat.beq k 3&&Nat.beq l 3 then false else uF (bif Nat.beq k 3 then 2 else k) (bif Nat.beq l 3 then 2 else l)
def Km:List Oper→Nat→List Nat
 | [],_=>[]
 | o::l,i=>bif Vd o then i::Km l (i+1)else Km l (i+1)
def D2(bs al:List Nat)(n:Nat):Bool:=(List.range n).all fun j => !(al.any fun p=>ordered bs p j)||al.all fun p=>ordered bs p j
def IJ(ops:Array Oper)(ks:List Nat):Bool :=
 let l:=ops.toList
 bT l 0&&(ks.all fun k=>Nat.ble k 2)&&oF sC ops (xE l []) l (Jk l ks) 0 []&&D2 (xE l []) (Km l 0) l.length
def uA:RK→RK→Bool
 | .rd b,.wr A => !(A.any (Nat.beq b))
 | .wr A,.rd b => !(A.any (Nat.beq b))
 | .rd b,.up a=>Nat.beq a b
 | .up a,.rd b=>Nat.beq a b
 | .up a,.up b=>Nat.beq a b
 | x,y=>uF x.base y.base
def MB(ops:Array Oper)(ks:List RK):Bool :=
 let l:=ops.toList
 bT l 0&&oF uA ops (xE l []) l ks 0 []
def Q8(ops:Array Oper)(ks:List Nat)(bk:List RK):Bool:=M8 ops ks||IJ ops ks||MB ops bk
def ct(n:Nat)(ops:Array Oper)(draw:Bool)(fr:Fr)(kn:Kn)(st:St):T fE :=
 (nK c n ops ops.toList ⟨fr,kn,st,[],[]⟩).bind fun s=>bif !draw||Q8 ops s.ks.reverse s.bk.reverse then .ret s else .fail
structure ze4 where
 ex:Ex
 fr:Fr
 kn:Kn
 st:St
structure zgM where
 ex:Ex
 out:List (Nat×D)
 st:St
abbrev zcc:=Nat→Fr→St→T zgM
def z7C(l:List (Nat×D)):Fr:=l.map fun p=>(p.1,some p.2)
def ev(n:Nat)(L:zcc):Code→Fr→Kn→St→T ze4
 | .skip,fr,kn,st=>.ret ⟨.normal,fr,kn,st⟩
 | .region _ ops draw,fr,kn,st=>(ct c n ops draw fr kn st).bind fun s=>.ret ⟨.normal,s.fr,s.kn,s.st⟩
 | .seq a b,fr,kn,st=>(ev n L a fr kn st).bind fun r=>match r.ex with
  | .normal=>ev n L b r.fr r.kn r.st
  | _=>.ret r
 | .cond x a b,fr,kn,st=>match dZ kn x with
  | some true=>ev n L a fr kn st
  | some false=>ev n L b fr kn st
  | none=>match x with
   | .tmp t=>match fr.get t with
    | some (.zU .bool v)=>.ite v (ev n L a fr ((t,some true)::kn) st) (ev n L b fr ((t,some false)::kn) st)
    | _=>.fail
   | _=>.fail
 | .block id (.loop _),fr,_,st=>(L id fr st).bind fun r=>match r.ex with
   | .exit id'=>bif Nat.beq id' id then .ret ⟨.normal,z7C r.out,[],r.st⟩else .ret ⟨.exit id',z7C r.out,[],r.st⟩
   | .normal=>.fail
   | x=>.ret ⟨x,z7C r.out,[],r.st⟩
 | .block id a,fr,kn,st=>(ev n L a fr kn st).bind fun r=>match r.ex with
  | .exit id'=>bif Nat.beq id' id then .ret { r with ex:=.normal } else .ret r
  | _=>.ret r
 | .exit id,fr,kn,st=>.ret ⟨.exit id,fr,kn,st⟩
 | .ret,fr,kn,st=>.ret ⟨.ret,fr,kn,st⟩
 | _,_,_,_=>.fail
def wL:List D→Nat→Fr
 | [],_=>[]
 | d::r,i=>(i,some d)::wL r (i+1)
def dw(fr:Fr)(st:St):List ResultVar→T (List D)
 | []=>.ret []
 | .tmp t::r=>match fr.get t with
  | some d=>(dw fr st r).bind fun l=>.ret (d::l)
  | none=>.fail
 | .cell a t::r=>match fr.get a with
  | some (.ptr b off)=>match st[b]? with
   | some (.var d)=>match I9 c t d off with
    | some x=>(dw fr st r).bind fun l=>.ret (x::l)
    | none=>.fail
   | _=>.fail
  | _=>.fail
def vN(n:Nat):D→Bool
 | .ptr b _=>Nat.blt b n
 | .yr b _=>Nat.blt b n
 | .uC b .. => Nat.blt b n
 | .ms b .. => Nat.blt b n
 | .xr .. | .agg _ | .gK _ | .iface .. => false
 | _=>true
def bO(n:Nat):D→Bool
 | .xr _ l=>l.all (vN n)
 | .agg l=>l.all (vN n)
 | .iface _ d=>vN n d
 | d=>vN n d
def Hk(n:Nat):yp→Bool
 | .var d=>bO n d
 | _=>true
end
end Go.AM
namespace Go.AM
open Go.RowKit
inductive Rc(w:World)(ok:Nat→Prop):(τ:Ty)→den τ→List Value→Prop
 | int (k:IntKind) (n:Int):Rc w ok (.int k) n [.int k n]
 | bool (b:Bool):Rc w ok .bool b [.bool b]
 | str (s:zf):Rc w ok .str s [.string ⟨s.toArray⟩]
 | iG (e:Ty) (a:Option Addr):Rc w ok (.sl e) ([]:List (den e)) [.slice a 0 0]
 | sl (e:Ty) (l:List (den e)) (blk off cap:Nat) (f:Nat→List Value) (wm:ok blk) (wH:l.length≤cap)
   (h:∀ i (hi:i<l.length),Rc w ok e l[i] (f i))
   (hc:∀ i,i<l.length→∀ j v,(f i)[j]? = some v→w.cell? ⟨blk,off+i*e.size+j,none⟩=some v) :
   Rc w ok (.sl e) l [.slice (some ⟨blk,off,none⟩) l.length cap]
 | nil:Rc w ok .nil () []
 | cons (a b:Ty) (x:den a) (y:den b) (c1 c2:List Value) (h1:Rc w ok a x c1) (h2:Rc w ok b y c2):Rc w ok (.cons a b) (x,y) (c1++c2)
 | expr (k:Int) (n:den Gw) (s:zf) (l:List Expr) (cs:List Value) (h:Rc w ok XN (k,n,s,l,()) cs):Rc w ok .expr (.mk k n s l) cs
def F1(w w':World)(ok Vi:Nat→Prop):Prop:=∀ k,ok k→Vi k∧w'.heap[k]? = w.heap[k]?
theorem cv{w w':World}{a:Addr}(h:w'.heap[a.block]? = w.heap[a.block]?):w'.cell? a=w.cell? a:=by simp[World.cell?,h]
section
variable {w w':World} {ok Vi:Nat→Prop}
theorem Rc.mono{τ:Ty}{x:den τ}{cs:List Value}(hs:F1 w w' ok Vi)(h:Rc w ok τ x cs):Rc w' Vi τ x cs:=by
 induction h with
 | int k n=>exact .int k n
 | bool b=>exact .bool b
 | str s=>exact .str s
 | iG e a=>exact .iG e a
 | sl e l blk off cap f wm wH h hc ih=>exact .sl e l blk off cap f (hs _ wm).1 wH ih fun i hi j v hv=>by rw[cv (hs _ wm).2]; exact hc i hi j v hv
 | nil=>exact .nil
 | cons a b x y c1 c2 h1 h2 i1 i2=>exact .cons a b x y c1 c2 i1 i2
 | expr k n s l cs h ih=>exact .expr k n s l cs ih
theorem Rc.len{τ:Ty}{x:den τ}{cs:List Value}(h:Rc w ok τ x cs):cs.length=τ.size:=by
 induction h with
 | cons a b x y c1 c2 h1 h2 i1 i2=>simp[Ty.size,i1,i2]
 | expr k n s l cs h ih=>simpa[Ty.size]using ih
 | _=>simp[Ty.size]
theorem Rc.one{τ:Ty}{x:den τ}{cs:List Value}(h:Rc w ok τ x cs):∀ v∈cs,v.oneCell'=true:=by
 induction h with
 | cons a b x y c1 c2 h1 h2 i1 i2=>intro v hv; rcases List.mem_append.1 hv with h | h; exact i1 v h; exact i2 v h
 | expr k n s l cs h ih=>exact ih
 | _=>intro v hv; simp at hv; try (subst hv; rfl)
theorem Rc.fu{k:IntKind}{n:Int}{cs:List Value}(h:Rc w ok (.int k) n cs):cs=[.int k n]:=by cases h; rfl
theorem Rc.bm{n:Bool}{cs:List Value}(h:Rc w ok .bool n cs):cs=[.bool n]:=by cases h; rfl
theorem Rc.lL{n:zf}{cs:List Value}(h:Rc w ok .str n cs):cs=[.string ⟨n.toArray⟩]:=by cases h; rfl
theorem Rc.cons_inv{a b:Ty}{x:den (.cons a b)}{cs:List Value}(h:Rc w ok (.cons a b) x cs):∃ c1 c2,cs=c1++c2∧Rc w ok a x.1 c1∧Rc w ok b x.2 c2:=by
 cases h with | cons _ _ x y c1 c2 h1 h2=>exact⟨c1,c2,rfl,h1,h2⟩
theorem Rc.qI{x:den .nil}{cs:List Value}(h:Rc w ok .nil x cs):cs=[]:=by cases h; rfl
theorem Rc.DZ{x:Expr}{cs:List Value}(h:Rc w ok .expr x cs):Rc w ok XN x.NL cs:=by cases h with | expr k n s l cs h=>exact h
theorem Rc.og{e:Ty}{l:List (den e)}{cs:List Value}(h:Rc w ok (.sl e) l cs):(l=[]∧∃ a,cs=[.slice a 0 0]) ∨
  ∃ (blk off cap:Nat) (f:Nat→List Value),cs=[.slice (some ⟨blk,off,none⟩) l.length cap]∧ok blk∧l.length≤cap∧(∀ i (hi:i<l.length),Rc w ok e l[i] (f i)) ∧
   (∀ i,i<l.length→∀ j v,(f i)[j]? = some v→w.cell? ⟨blk,off+i*e.size+j,none⟩=some v):=by
 cases h with
 | iG _ a=>exact .inl ⟨rfl,a,rfl⟩
 | sl _ _ blk off cap f wm wH h hc=>exact .inr ⟨blk,off,cap,f,rfl,wm,wH,h,hc⟩
end
def pk(τ:Ty)(cs:List Value):Value:=if τ.isAgg then .agg cs.toArray else cs.headD undef
structure KS where
 w:World
 ok:Nat→Prop
 ph:List (Option (Nat×Nat))
 st:St
def LW(ph:List (Option (Nat×Nat)))(b zh2:Nat)(e:Ty)(off len:Nat)(v:Value):Prop :=
 off+len≤zh2∧((len=0∧off=0∧v=.slice none 0 0∧ph[b]? = some none) ∨
  ∃ (blk n o cap:Nat),ph[b]? = some (some (blk,n))∧v=.slice (some ⟨blk,o,none⟩) len cap∧len≤cap∧(off+cap)*e.size≤n∧(cap=0∨o=off*e.size))
def Old(st:St)(b qY:Nat):Prop:=st[b]? = some .dead∨∃ (v0:Nat) (e0:Ty) (ri:List (den e0)),st[b]? = some (.arr v0 e0 ri)∧qY≤v0
def D.one:D→Bool
 | .zU τ _ => !τ.isAgg
 | .agg _ | .gK _=>false
 | _=>true
def Wb(f:Nat)(vs:List Value):Value:=bif Nat.ble 1000000 f then .func (.func (f % 1000000)) vs.toArray #[]else .func (.func f) #[] vs.toArray
theorem Mn{f:Nat}(h:Nat.blt f 1000000=true)(vs:List Value):Wb f vs=.func (.func f) #[] vs.toArray:=by
 have:Nat.ble 1000000 f=false:=by
  cases hb:Nat.ble 1000000 f with
  | false=>rfl
  | true=>have h1:=Nat.le_of_ble_eq_true hb; have h2:=Nat.le_of_ble_eq_true h; omega
 unfold Wb; rw[this]; rfl
theorem Ie{f:Nat}(h:Nat.blt f 1000000=true)(vs:List Value):Wb (f+1000000) vs=.func (.func f) vs.toArray #[]:=by
 have h1:Nat.ble 1000000 (f+1000000)=true:=Nat.ble_eq_true_of_le (by omega)
 have h2:=Nat.le_of_ble_eq_true h
 have h3:(f+1000000) % 1000000=f:=by omega
 unfold Wb; rw[h1,h3]; rfl
theorem K5(f:Nat)(vs:List Value):(Wb f vs).cells.toList=[Wb f vs]:=by
 unfold Wb; cases Nat.ble 1000000 f<;>rfl
theorem PH(f:Nat)(vs:List Value):(Wb f vs).oneCell'=true:=by
 unfold Wb; cases Nat.ble 1000000 f<;>rfl
theorem KV(f:Nat)(vs:List Value):∃ g a b,Wb f vs=.func (.func g) a b:=by
 unfold Wb; cases Nat.ble 1000000 f<;>exact⟨_,_,_,rfl⟩
inductive RD(κ:KS):D→Value→Prop
 | zU (τ:Ty) (x:den τ) (cs:List Value) (h:Rc κ.w κ.ok τ x cs):RD κ (.zU τ x) (pk τ cs)
 | xJ (e:Ty) (a:Option Addr):RD κ (.tight e ([]:List (den e)) false) (.slice a 0 0)
 | tight (e:Ty) (l:List (den e)) (ne:Bool) (blk off:Nat) (f:Nat→List Value) (uv:ne=true→l≠[]) (wm:κ.ok blk)
   (h:∀ i (hi:i<l.length),Rc κ.w κ.ok e l[i] (f i))
   (hc:∀ i,i<l.length→∀ j v,(f i)[j]? = some v→κ.w.cell? ⟨blk,off+i*e.size+j,none⟩=some v) :
   RD κ (.tight e l ne) (.slice (some ⟨blk,off,none⟩) l.length l.length)
 | xw:RD κ .xw (.slice none 0 0)
 | yI:RD κ .yI (.pointer none)
 | wb:RD κ .wb .nilIface
 | u9:RD κ .u9 .nilFunc
 | vX:RD κ .vX (.map none)
 | ZV (v:Value) (h:v.oneCell'=true):RD κ .ZV v
 | dp (T:Nat):RD κ (.dp T) (.pointer none)
 | dU (b T:Nat) (d:D) (hd:κ.st[b]? = some (.var d)):RD κ (.yr b T) (.pointer none)
 | dD (b T blk n:Nat) (d:D) (hd:κ.st[b]? = some (.var d)) (h:κ.ph[b]? = some (some (blk,n))):RD κ (.yr b T) (.pointer (some ⟨blk,0,none⟩))
 | ptr (b off blk n:Nat) (d:D) (hd:κ.st[b]? = some (.var d)) (h:κ.ph[b]? = some (some (blk,n))):RD κ (.ptr b off) (.pointer (some ⟨blk,off,none⟩))
 | xx (τ:Ty) (x:den τ) (cs:List Value) (blk off:Nat) (wm:κ.ok blk) (h:Rc κ.w κ.ok τ x cs)
   (hc:∀ j v,cs[j]? = some v→κ.w.cell? ⟨blk,off+j,none⟩=some v):RD κ (.xx τ x) (.pointer (some ⟨blk,off,none⟩))
 | uC (b qY:Nat) (e:Ty) (idx off blk o:Nat) (hb:Old κ.st b qY)
   (h:∀ xs:List (den e),κ.st[b]? = some (.arr qY e xs)→idx<xs.length→∃ n:Nat,κ.ph[b]? = some (some (blk,n))∧o=idx*e.size+off) :
   RD κ (.uC b qY e idx off) (.pointer (some ⟨blk,o,none⟩))
 | ms (b qY:Nat) (e:Ty) (off len cap:Nat) (a:Option Addr) (hb:Old κ.st b qY) (wH:len≤cap) (ha:a=none→cap=0) (Z1:∀ p,a=some p→p.spot=none)
   (h:∀ xs:List (den e),κ.st[b]? = some (.arr qY e xs)→LW κ.ph b xs.length e off len (.slice a len cap)):RD κ (.ms b qY e off len) (.slice a len cap)
 | xr (f:Nat) (l:List D) (vs:List Value) (hl:l.length=vs.length) (h:∀ i (h1:i<l.length) (h2:i<vs.length),RD κ l[i] vs[i]):RD κ (.xr f l) (Wb f vs)
 | agg (l:List D) (vs:List Value) (hl:l.length=vs.length) (ho:∀ d∈l,d.one=true) (h:∀ i (h1:i<l.length) (h2:i<vs.length),RD κ l[i] vs[i]):RD κ (.agg l) (.agg vs.toArray)
 | gK (l:List D) (vs:List Value) (hl:l.length=vs.length) (h:∀ i (h1:i<l.length) (h2:i<vs.length),RD κ l[i] vs[i]):RD κ (.gK l) (.tuple vs.toArray)
 | iface (t:Nat) (d:D) (v:Value) (h:RD κ d v):RD κ (.iface t d) (.iface t v)
def xz(κ:KS)(l:List D)(vs:List Value):Prop:=l.length=vs.length∧∀ i (h1:i<l.length) (h2:i<vs.length),RD κ l[i] vs[i]
def fP[Zk](κ:KS)(b:Nat):yp→Prop
 | .dead=>True
 | .var d=>∃ (blk n:Nat) (cs:Array Value) (t:TypeId),κ.ph[b]? = some (some (blk,n))∧κ.w.heap[blk]? = some (.cells cs t (0,0))∧cs.size=n∧xz κ (qt d) cs.toList∧(∀ x∈qt d,x.one=true)∧∀ T,d.typed=some T→t=T
 | .arr _ e xs=>0<e.size∧((xs=[]∧κ.ph[b]? = some none) ∨
   ∃ (blk n:Nat) (cs:Array Value) (t:TypeId),κ.ph[b]? = some (some (blk,n))∧κ.w.heap[blk]? = some (.cells cs t (0,0))∧cs.size=n∧xs.length*e.size≤n∧z4n e t ∧
    ∃ f:Nat→List Value,∀ i (hi:i<xs.length),Rc κ.w κ.ok e xs[i] (f i)∧∀ j v,(f i)[j]? = some v→cs[i*e.size+j]? = some v)
class uH extends Zk where
 tab:List (Nat×(Obj→Prop))
def QF[uH](w:World)(ok:Nat→Prop):Prop:=∀ x∈uH.tab,ok x.1∧∃ o,w.heap[x.1]? = some o∧x.2 o
theorem QF.mono[uH]{w w':World}{ok Vi:Nat→Prop}(h:QF w ok)(hs:F1 w w' ok Vi):QF w' Vi:=fun x hx=>by
 obtain⟨h1,o,h2,h3⟩:=h x hx
 obtain⟨g1,g2⟩:=hs _ h1
 exact⟨g1,o,by rw[g2]; exact h2,h3⟩
structure Inv[uH](κ:KS):Prop where
 len:κ.ph.length=κ.st.length
 yi:∀ k,κ.ok k→k<κ.w.heap.size
 apart:∀ (b blk n:Nat),κ.ph[b]? = some (some (blk,n))→blk<κ.w.heap.size∧¬ κ.ok blk
 inj:∀ (b b' blk n n':Nat),κ.ph[b]? = some (some (blk,n))→κ.ph[b']? = some (some (blk,n'))→b=b'
 blk:∀ (b:Nat) (x:yp),κ.st[b]? = some x→fP κ b x
 gl:QF κ.w κ.ok
structure Ext(κ κ':KS):Prop where
 os:κ'.w.os=κ.w.os
 tape:κ'.w.tape=κ.w.tape
 output:κ'.w.output=κ.w.output
 size:κ.w.heap.size≤κ'.w.heap.size
 same:F1 κ.w κ'.w κ.ok κ'.ok
 fresh:∀ k,κ'.ok k→κ.ok k∨κ.w.heap.size≤k∨∃ b n:Nat,κ.ph[b]? = some (some (k,n))
 phs:∀ (b blk n:Nat),κ'.ph[b]? = some (some (blk,n))→κ.ph[b]? = some (some (blk,n))∨κ.w.heap.size≤blk
 var:∀ (b:Nat) (d:D),κ.st[b]? = some (.var d)→(∃ d',κ'.st[b]? = some (.var d'))∧κ'.ph[b]? = κ.ph[b]?
 arr:∀ (b v0:Nat) (e:Ty) (ri:List (den e)),κ.st[b]? = some (.arr v0 e ri)→κ'.st[b]? = some .dead ∨
  ∃ (v1:Nat) (zE:List (den e)),κ'.st[b]? = some (.arr v1 e zE)∧v0≤v1∧(v0=v1→κ'.ph[b]? = κ.ph[b]? ∧ ri.length=zE.length)
 dead:∀ (b:Nat),κ.st[b]? = some .dead→κ'.st[b]? = some .dead
 E6:κ.st.length≤κ'.st.length
 frame:∀ k,k<κ.w.heap.size→(∀ (b n:Nat),κ.ph[b]? ≠ some (some (k,n)))→κ'.w.heap[k]? = κ.w.heap[k]?
theorem Ext.refl(κ:KS):Ext κ κ :=
 ⟨rfl,rfl,rfl,Nat.le_refl _,fun _ h=>⟨h,rfl⟩,fun _ h=>.inl h,fun _ _ _ h=>.inl h,fun _ d h=>⟨⟨d,h⟩,rfl⟩,
  fun _ qY _ xs h=>.inr ⟨qY,xs,h,Nat.le_refl _,fun _=>⟨rfl,rfl⟩⟩,fun _ h=>h,Nat.le_refl _,fun _ _ _=>rfl⟩
theorem Ext.trans{a b c:KS}(h:Ext a b)(k:Ext b c):Ext a c:=by
 refine⟨k.os.trans h.os,k.tape.trans h.tape,k.output.trans h.output,Nat.le_trans h.size k.size,?_,?_,?_,?_,?_,fun b hb=>k.dead b (h.dead b hb),Nat.le_trans h.E6 k.E6,?_⟩
 ·intro i hi
  obtain⟨h1,h2⟩:=h.same i hi
  obtain⟨h3,h4⟩:=k.same i h1
  exact⟨h3,h4.trans h2⟩
 ·intro i hi
  rcases k.fresh i hi with h1 | h1 | ⟨b,n,h1⟩
  ·exact h.fresh i h1
  ·exact .inr (.inl (Nat.le_trans h.size h1))
  ·rcases h.phs b i n h1 with h2 | h2
   ·exact .inr (.inr ⟨b,n,h2⟩)
   ·exact .inr (.inl h2)
 ·intro i blk n hi
  rcases k.phs i blk n hi with h1 | h1
  ·exact h.phs i blk n h1
  ·exact .inr (Nat.le_trans h.size h1)
 ·intro i d hi
  obtain⟨⟨d',yZ⟩,hp⟩:=h.var i d hi
  obtain⟨zhf,hp'⟩:=k.var i d' yZ
  exact⟨zhf,hp'.trans hp⟩
 ·intro i v0 e ri hi
  rcases h.arr i v0 e ri hi with h1 | ⟨v1,x1,h1,h2,h3⟩
  ·exact .inl (k.dead i h1)
  ·rcases k.arr i v1 e x1 h1 with g1 | ⟨v2,x2,g1,g2,g3⟩
   ·exact .inl g1
   ·refine .inr ⟨v2,x2,g1,Nat.le_trans h2 g2,fun he => ?_⟩
    have e1:v1=v2:=by omega
    have e0:v0=v1:=by omega
    exact⟨(g3 e1).1.trans (h3 e0).1,(h3 e0).2.trans (g3 e1).2⟩
 ·intro i hi hn
  refine(k.frame i (Nat.lt_of_lt_of_le hi h.size) fun b n hb => ?_).trans (h.frame i hi hn)
  rcases h.phs b i n hb with h1 | h1
  ·exact hn b n h1
  ·omega
theorem Ext.old{κ κ':KS}(x:Ext κ κ'){b qY:Nat}(h:Old κ.st b qY):Old κ'.st b qY:=by
 rcases h with h | ⟨v0,e0,ri,h,hv⟩
 ·exact .inl (x.dead b h)
 ·rcases x.arr b v0 e0 ri h with h1 | ⟨v1,x1,h1,h2,_⟩
  ·exact .inl h1
  ·exact .inr ⟨v1,e0,x1,h1,Nat.le_trans hv h2⟩
theorem Ext.back{κ κ':KS}(x:Ext κ κ'){b qY:Nat}(h:Old κ.st b qY){e:Ty}{xs:List (den e)}(hx:κ'.st[b]? = some (.arr qY e xs)) :
  ∃ ri:List (den e),κ.st[b]? = some (.arr qY e ri)∧κ'.ph[b]? = κ.ph[b]? ∧ ri.length=xs.length:=by
 rcases h with h | ⟨v0,e0,ri,h,hv⟩
 ·have:=x.dead b h; rw[hx]at this; cases this
 ·rcases x.arr b v0 e0 ri h with h1 | ⟨v1,x1,h1,h2,h3⟩
  ·rw[hx]at h1; cases h1
  ·rw[hx]at h1
   cases h1
   have e0:v0=qY:=by omega
   subst e0
   exact⟨ri,h,(h3 rfl).1,(h3 rfl).2⟩
theorem RD.mono{κ κ':KS}(x:Ext κ κ'){d:D}{v:Value}(h:RD κ d v):RD κ' d v:=by
 induction h with
 | zU τ y cs h=>exact .zU τ y cs (h.mono x.same)
 | xJ e a=>exact .xJ e a
 | tight e l ne blk off f uv wm h hc=>exact .tight e l ne blk off f uv (x.same _ wm).1 (fun i hi=>(h i hi).mono x.same) fun i hi j v hv=>by rw[cv (x.same _ wm).2]; exact hc i hi j v hv
 | xw=>exact .xw
 | yI=>exact .yI
 | wb=>exact .wb
 | u9=>exact .u9
 | vX=>exact .vX
 | ZV v h=>exact .ZV v h
 | dp T=>exact .dp T
 | dU b T d hd =>
  obtain⟨⟨d',yZ⟩,hp⟩:=x.var b d hd
  exact .dU b T d' yZ
 | dD b T blk n d hd h =>
  obtain⟨⟨d',yZ⟩,hp⟩:=x.var b d hd
  exact .dD b T blk n d' yZ (hp.trans h)
 | ptr b off blk n d hd h =>
  obtain⟨⟨d',yZ⟩,hp⟩:=x.var b d hd
  exact .ptr b off blk n d' yZ (hp.trans h)
 | xx τ y cs blk off wm h hc=>exact .xx τ y cs blk off (x.same _ wm).1 (h.mono x.same) fun j v hv=>by rw[cv (x.same _ wm).2]; exact hc j v hv
 | uC b qY e idx off blk o hb h =>
  refine .uC b qY e idx off blk o (x.old hb) fun xs hx hi => ?_
  obtain⟨ri,h1,h2,h3⟩:=x.back hb hx
  rw[h2]
  exact h ri h1 (by omega)
 | ms b qY e off len cap a hb wH ha Z1 h =>
  refine .ms b qY e off len cap a (x.old hb) wH ha Z1 fun xs hx => ?_
  obtain⟨ri,h1,h2,h3⟩:=x.back hb hx
  have:=h ri h1
  unfold LW at this ⊢
  rw[h2,← h3]
  exact this
 | xr f l vs hl h ih=>exact .xr f l vs hl ih
 | agg l vs hl ho h ih=>exact .agg l vs hl ho ih
 | gK l vs hl h ih=>exact .gK l vs hl ih
 | iface t d v h ih=>exact .iface t d v ih
end Go.AM
namespace Go.AM
section
variable {α β:Type}
theorem T.zY{t:T α}{k:α→T β}{b:β}:(t.bind k).leads b↔∃ a,t.leads a∧(k a).leads b:=by
 induction t with
 | ret a=>simp[T.bind,T.leads]
 | ite c t e i1 i2 =>
  simp only[T.bind,T.leads,i1,i2]
  constructor
  ·rintro(⟨h,a,x,y⟩ | ⟨h,a,x,y⟩)
   ·exact⟨a,.inl ⟨h,x⟩,y⟩
   ·exact⟨a,.inr ⟨h,x⟩,y⟩
  ·rintro⟨a,⟨h,x⟩ | ⟨h,x⟩,y⟩
   ·exact .inl ⟨h,a,x,y⟩
   ·exact .inr ⟨h,a,x,y⟩
 | zd p t ih =>
  simp only[T.bind,T.leads,ih]; constructor
  ·rintro⟨h,a,x,y⟩; exact⟨a,⟨h,x⟩,y⟩
  ·rintro⟨a,⟨h,x⟩,y⟩; exact⟨h,a,x,y⟩
 | fail=>simp[T.bind,T.leads]
theorem T.uh{o:Option α}{a:α}:(T.U7 o).leads a↔o=some a:=by cases o<;>simp[T.U7,T.leads]
end
section
variable {κ:KS}
theorem xz.nil:xz κ [] []:=⟨rfl,fun i h _=>absurd h (Nat.not_lt_zero i)⟩
theorem xz.cons{d:D}{v:Value}{l:List D}{vs:List Value}(h:RD κ d v)(t:xz κ l vs):xz κ (d::l) (v::vs) :=
 ⟨by simp[t.1],fun i h1 h2=>by cases i with | zero=>exact h | succ i=>exact t.2 i (by simpa using h1) (by simpa using h2)⟩
theorem xz.cons_inv{d:D}{l:List D}{vs:List Value}(h:xz κ (d::l) vs):∃ v r,vs=v::r∧RD κ d v∧xz κ l r:=by
 obtain⟨hl,h⟩:=h
 cases vs with
 | nil=>simp at hl
 | cons v r=>exact⟨v,r,rfl,h 0 (by simp) (by simp),by simpa using hl,fun i h1 h2=>h (i+1) (by simpa using h1) (by simpa using h2)⟩
theorem xz.qI{vs:List Value}(h:xz κ [] vs):vs=[]:=List.eq_nil_of_length_eq_zero h.1.symm
theorem xz.append{l l':List D}{vs vs':List Value}(h:xz κ l vs)(h':xz κ l' vs'):xz κ (l++l') (vs++vs'):=by
 induction l generalizing vs with
 | nil=>rw[h.qI]; exact h'
 | cons d l ih=>obtain⟨v,r,rfl,h1,h2⟩:=h.cons_inv; exact .cons h1 (ih h2)
theorem xz.EE{l l':List D}{vs:List Value}(h:xz κ (l++l') vs):∃ v1 v2,vs=v1++v2∧xz κ l v1∧xz κ l' v2:=by
 induction l generalizing vs with
 | nil=>exact⟨[],vs,rfl,.nil,h⟩
 | cons d l ih =>
  obtain⟨v,r,rfl,h1,h2⟩:=h.cons_inv
  obtain⟨v1,v2,rfl,h3,h4⟩:=ih h2
  exact⟨v::v1,v2,rfl,.cons h1 h3,h4⟩
theorem xz.get{l:List D}{vs:List Value}(h:xz κ l vs){i:Nat}{d:D}(hd:l[i]? = some d):∃ v,vs[i]? = some v∧RD κ d v:=by
 obtain⟨qu,he⟩:=List.getElem?_eq_some_iff.1 hd
 have h2:i<vs.length:=h.1▸qu
 exact⟨vs[i],List.getElem?_eq_getElem h2,he▸h.2 i qu h2⟩
theorem xz.take{l:List D}{vs:List Value}(h:xz κ l vs)(n:Nat):xz κ (l.take n) (vs.take n) :=
 ⟨by simp[h.1],fun i h1 h2=>by simp only[List.getElem_take]; exact h.2 i (by simp at h1; omega) (by simp at h2; omega)⟩
theorem xz.drop{l:List D}{vs:List Value}(h:xz κ l vs)(n:Nat):xz κ (l.drop n) (vs.drop n) :=
 ⟨by simp[h.1],fun i h1 h2=>by simp only[List.getElem_drop]; exact h.2 (n+i) (by simp at h1; omega) (by simp at h2; omega)⟩
theorem xz.mono{κ':KS}(x:Ext κ κ'){l:List D}{vs:List Value}(h:xz κ l vs):xz κ' l vs:=⟨h.1,fun i h1 h2=>(h.2 i h1 h2).mono x⟩
theorem QM{τ:Ty}{cs:List Value}(h:cs.length=τ.size)(nS:∀ v∈cs,v.oneCell'=true):(pk τ cs).cells.toList=cs:=by
 unfold pk
 split
 ·simp[Value.cells]
 ·rename_i hn
  have hs:τ.size=1:=by cases τ<;>simp[Ty.isAgg]at hn<;>rfl
  match cs,h,nS with
  | [v],_,nS =>
   have:=nS v (by simp)
   simp only[List.headD_cons]
   cases v<;>first | rfl | cases this
  | [],h,_=>rw[hs]at h; cases h
  | _::_::_,h,_=>rw[hs]at h; simp at h
theorem Ko{τ:Ty}(h:τ.isAgg=false)(v:Value):pk τ [v]=v:=by simp[pk,h]
theorem VX{τ:Ty}(h:τ.isAgg=false):τ.size=1:=by cases τ<;>simp[Ty.isAgg]at h<;>rfl
theorem Rc.single{w:World}{ok:Nat→Prop}{τ:Ty}{x:den τ}{cs:List Value}(h:Rc w ok τ x cs)(ht:τ.isAgg=false):∃ v,cs=[v]:=by
 have:=h.len
 rw[VX ht]at this
 match cs,this with
 | [v],_=>exact⟨v,rfl⟩
theorem RD.nD{τ:Ty}{x:den τ}{v:Value}(ht:τ.isAgg=false)(h:Rc κ.w κ.ok τ x [v]):RD κ (.zU τ x) v:=by
 have:=RD.zU τ x [v] h
 rwa [Ko ht]at this
theorem RD.gX{τ:Ty}{x:den τ}{v:Value}(h:RD κ (.zU τ x) v):∃ cs,Rc κ.w κ.ok τ x cs∧v=pk τ cs:=by
 cases h with | zU _ _ cs h=>exact⟨cs,h,rfl⟩
theorem RD.wO{τ:Ty}{x:den τ}{v:Value}(h:RD κ (.zU τ x) v)(ht:τ.isAgg=false):Rc κ.w κ.ok τ x [v]:=by
 obtain⟨cs,hc,rfl⟩:=RD.gX h
 obtain⟨u,rfl⟩:=hc.single ht
 rwa [Ko ht]
theorem RD.int{k:IntKind}{n:Int}:RD κ (.zU (.int k) n) (.int k n):=RD.nD rfl (.int k n)
theorem RD.bool{b:Bool}:RD κ (.zU .bool b) (.bool b):=RD.nD rfl (.bool b)
theorem RD.str{s:zf}:RD κ (.zU .str s) (.string ⟨s.toArray⟩):=RD.nD rfl (.str s)
theorem RD.fu{k:IntKind}{n:Int}{v:Value}(h:RD κ (.zU (.int k) n) v):v=.int k n:=by have:=(h.wO rfl).fu; simpa using this
theorem RD.bm{b:Bool}{v:Value}(h:RD κ (.zU .bool b) v):v=.bool b:=by have:=(h.wO rfl).bm; simpa using this
theorem RD.lL{s:zf}{v:Value}(h:RD κ (.zU .str s) v):v=.string ⟨s.toArray⟩:=by have:=(h.wO rfl).lL; simpa using this
theorem xz.one{d:D}{v:Value}(h:RD κ d v):xz κ [d] [v]:=.cons h .nil
theorem sa{τ:Ty}{x:den τ}{cs:List Value}(h:Rc κ.w κ.ok τ x cs):xz κ (flat τ x) cs:=by
 induction τ generalizing cs with
 | int k=>obtain⟨v,rfl⟩:=h.single rfl; exact .one (.nD rfl h)
 | bool=>obtain⟨v,rfl⟩:=h.single rfl; exact .one (.nD rfl h)
 | str=>obtain⟨v,rfl⟩:=h.single rfl; exact .one (.nD rfl h)
 | sl e _=>obtain⟨v,rfl⟩:=h.single rfl; exact .one (.nD rfl h)
 | nil=>rw[h.qI]; exact .nil
 | cons a b i1 i2=>obtain⟨c1,c2,rfl,h1,h2⟩:=h.cons_inv; exact(i1 h1).append (i2 h2)
 | expr =>
  obtain⟨c1,r1,rfl,h1,t1⟩:=h.DZ.cons_inv
  obtain⟨c2,r2,rfl,h2,t2⟩:=t1.cons_inv
  obtain⟨c3,r3,rfl,h3,t3⟩:=t2.cons_inv
  obtain⟨c4,r4,rfl,h4,t4⟩:=t3.cons_inv
  have e4:=t4.qI
  subst e4
  obtain⟨d1,s1,rfl,g1,u1⟩:=h2.cons_inv
  obtain⟨d2,s2,rfl,g2,u2⟩:=u1.cons_inv
  obtain⟨d3,s3,rfl,g3,u3⟩:=u2.cons_inv
  have e5:=u3.qI
  subst e5
  obtain⟨v1,rfl⟩:=h1.single rfl
  obtain⟨v3,rfl⟩:=h3.single rfl
  obtain⟨v4,rfl⟩:=h4.single rfl
  obtain⟨u1,rfl⟩:=g1.single rfl
  obtain⟨u2,rfl⟩:=g2.single rfl
  obtain⟨u3,rfl⟩:=g3.single rfl
  exact .cons (.nD rfl h1) (.cons (.nD rfl g1) (.cons (.nD rfl g2) (.cons (.nD rfl g3) (.cons (.nD rfl h3) (.cons (.nD rfl h4) .nil)))))
theorem dK:∀ (τ:Ty) (x:den τ),∀ d∈flat τ x,d.one=true
 | .int _,_,d,h | .bool,_,d,h | .str,_,d,h | .sl _,_,d,h=>by simp[flat]at h; subst h; rfl
 | .nil,_,d,h=>by simp[flat]at h
 | .cons a b,x,d,h=>by
  simp only[flat,List.mem_append]at h
  rcases h with h | h
  ·exact dK a x.1 d h
  ·exact dK b x.2 d h
 | .expr,x,d,h=>by simp[flat]at h; rcases h with rfl | rfl | rfl | rfl | rfl | rfl<;>rfl
theorem kO:∀ (τ:Ty) (x:den τ),(flat τ x).length=τ.size
 | .int _,_ | .bool,_ | .str,_ | .sl _,_ | .nil,_ | .expr,_=>rfl
 | .cons a b,x=>by simp[flat,Ty.size,kO a,kO b]
theorem GQ{v:Value}(h:v.oneCell'=true):v.cells = #[v]:=by
 cases v<;>first | rfl | cases h
theorem jz{d:D}{v:Value}(h:RD κ d v)(ht:d.uE=false):xz κ (qt d) v.cells.toList:=by
 cases h with
 | zU τ x cs h=>rw[QM h.len h.one]; exact sa h
 | agg l vs hl ho h=>exact⟨by simpa[Value.cells,qt]using hl,fun i h1 h2=>by simp only[Value.cells]at h2 ⊢; exact h i h1 h2⟩
 | gK=>cases ht
 | xJ e a=>exact .one (.xJ e a)
 | tight e l ne blk off f uv wm h hc=>exact .one (.tight e l ne blk off f uv wm h hc)
 | xw=>exact .one .xw
 | yI=>exact .one .yI
 | wb=>exact .one .wb
 | u9=>exact .one .u9
 | vX=>exact .one .vX
 | ZV v h=>rw[GQ h]; exact .one (.ZV v h)
 | dp T=>exact .one (.dp T)
 | dU b T d hd=>exact .one (.dU b T d hd)
 | dD b T blk n d hd h=>exact .one (.dD b T blk n d hd h)
 | ptr b off blk n d hd h=>exact .one (.ptr b off blk n d hd h)
 | xx τ x cs blk off wm h hc=>exact .one (.xx τ x cs blk off wm h hc)
 | uC b qY e idx off blk o hb h=>exact .one (.uC b qY e idx off blk o hb h)
 | ms b qY e off len cap a hb wH ha Z1 h=>exact .one (.ms b qY e off len cap a hb wH ha Z1 h)
 | xr f l vs hl h=>rw[K5]; exact .one (.xr f l vs hl h)
 | iface t d v h=>exact .one (.iface t d v h)
theorem jx{d:D}{v:Value}(h:RD κ d v):∀ x∈qt d,x.one=true:=by
 cases h with
 | zU τ x cs h=>exact dK τ x
 | agg l vs hl ho h=>exact ho
 | gK=>intro x hx; simp[qt]at hx
 | _=>intro x hx; simp[qt]at hx; subst hx; rfl
theorem RD.J4{d:D}{v:Value}(h:RD κ d v)(ho:d.one=true):v.oneCell'=true:=by
 cases h with
 | zU τ x cs h =>
  have ht:τ.isAgg=false:=by simpa[D.one]using ho
  obtain⟨v,rfl⟩:=h.single ht
  rw[Ko ht]
  exact h.one v (by simp)
 | agg=>cases ho
 | gK=>cases ho
 | ZV v h=>exact h
 | xr f l vs=>exact PH f vs
 | _=>rfl
theorem qE{a b:Ty}{x:den a}{y:den b}(h:(vW x:Option (den b))=some y):∃ e:a=b,y=e▸x:=by
 unfold vW at h
 split at h
 ·rename_i e; cases h; exact⟨e,rfl⟩
 ·cases h
theorem yB{τ:Ty}{d:D}{v:Value}{x:den τ}(h:RD κ d v)(hx:fW τ d=some x)(ht:τ.isAgg=false):Rc κ.w κ.ok τ x [v]:=by
 cases h with
 | zU σ y cs h =>
  obtain⟨rfl,rfl⟩:=qE hx
  obtain⟨u,rfl⟩:=h.single ht
  rwa [Ko ht]
 | xJ e a=>obtain⟨rfl,rfl⟩:=qE hx; exact .iG e a
 | tight e l ne blk off f uv wm h hc=>obtain⟨rfl,rfl⟩:=qE hx; exact .sl e _ blk off _ f wm (Nat.le_refl _) h hc
 | xw =>
  cases τ with
  | sl e=>simp[fW]at hx; subst hx; exact .iG e none
  | _=>simp[fW]at hx
 | _=>simp[fW]at hx
theorem tH:∀ (τ:Ty) {ds:List D} {vs:List Value} {x:den τ} {r:List D},xz κ ds vs→jE τ ds=some (x,r) →
  ∃ c1 c2,vs=c1++c2∧Rc κ.w κ.ok τ x c1∧xz κ r c2
 | .int k,[],_,_,_,_,he | .bool,[],_,_,_,_,he | .str,[],_,_,_,_,he | .sl e,[],_,_,_,_,he | .expr,[],_,_,_,_,he=>by simp[jE]at he
 | .int k,d::r,vs,x,r',h,he=>by
  simp only[jE]at he
  split at he
  ·rename_i y hy; cases he; obtain⟨v,u,rfl,h1,h2⟩:=h.cons_inv; exact⟨[v],u,rfl,yB h1 hy rfl,h2⟩
  ·cases he
 | .bool,d::r,vs,x,r',h,he=>by
  simp only[jE]at he
  split at he
  ·rename_i y hy; cases he; obtain⟨v,u,rfl,h1,h2⟩:=h.cons_inv; exact⟨[v],u,rfl,yB h1 hy rfl,h2⟩
  ·cases he
 | .str,d::r,vs,x,r',h,he=>by
  simp only[jE]at he
  split at he
  ·rename_i y hy; cases he; obtain⟨v,u,rfl,h1,h2⟩:=h.cons_inv; exact⟨[v],u,rfl,yB h1 hy rfl,h2⟩
  ·cases he
 | .sl e,d::r,vs,x,r',h,he=>by
  simp only[jE]at he
  split at he
  ·rename_i y hy; cases he; obtain⟨v,u,rfl,h1,h2⟩:=h.cons_inv; exact⟨[v],u,rfl,yB h1 hy rfl,h2⟩
  ·cases he
 | .nil,ds,vs,x,r,h,he=>by simp only[jE]at he; cases he; exact⟨[],vs,rfl,.nil,h⟩
 | .cons a b,ds,vs,x,r,h,he=>by
  simp only[jE]at he
  split at he
  ·rename_i y r' hy
   split at he
   ·rename_i z r'' hz
    cases he
    obtain⟨c1,c2,rfl,h1,h2⟩:=tH a h hy
    obtain⟨c3,c4,rfl,h3,h4⟩:=tH b h2 hz
    exact⟨c1++c3,c4,by simp,.cons a b y z c1 c3 h1 h3,h4⟩
   ·cases he
  ·cases he
 | .expr,d::r,vs,x,r',h,he=>by
  simp only[jE]at he
  split at he
  ·cases he
  ·rename_i k hk
   split at he
   ·rename_i d1 d2 d3 d4 d5 r0
    split at he
    ·rename_i a n m s l ha hn hm hs hl
     cases he
     obtain⟨v,u,rfl,h0,t0⟩:=h.cons_inv
     obtain⟨v1,u1,rfl,h1,t1⟩:=t0.cons_inv
     obtain⟨v2,u2,rfl,h2,t2⟩:=t1.cons_inv
     obtain⟨v3,u3,rfl,h3,t3⟩:=t2.cons_inv
     obtain⟨v4,u4,rfl,h4,t4⟩:=t3.cons_inv
     obtain⟨v5,u5,rfl,h5,t5⟩:=t4.cons_inv
     refine⟨[v]++(([v1]++([v2]++([v3]++[])))++([v4]++([v5]++[]))),u5,by simp,.expr _ _ _ _ _ ?_,t5⟩
     exact .cons i64 _ k _ _ _ (yB h0 hk rfl) (.cons Gw _ (a,n,m,()) _ _ _ (.cons .bool _ a _ _ _ (yB h1 ha rfl) (.cons _ _ n _ _ _ (yB h2 hn rfl) (.cons _ _ m _ _ _ (yB h3 hm rfl) .nil)))
      (.cons .str _ s _ _ _ (yB h4 hs rfl) (.cons _ _ l _ _ _ (yB h5 hl rfl) .nil)))
    ·cases he
   ·cases he
theorem cL{τ:Ty}{d:D}{v:Value}{x:den τ}(h:RD κ d v)(hx:dX τ d=some x):RD κ (.zU τ x) v:=by
 have key:(∀ σ y,d≠.zU σ y)→(bif (d.isAgg==τ.isAgg) && !d.uE then(match jE τ (qt d)with | some (x,[])=>some x | _=>none)else none)=some x→RD κ (.zU τ x) v:=by
  intro hni hx
  cases hc:(d.isAgg==τ.isAgg) && !d.uE with
  | false=>rw[hc]at hx; cases hx
  | true =>
  rw[hc]at hx
  simp only[cond_true]at hx
  simp only[Bool.and_eq_true,beq_iff_eq,Bool.not_eq_true']at hc
  obtain⟨z3i,Bt⟩:=hc
  split at hx
  ·rename_i y hy
   cases hx
   obtain⟨c1,c2,he,h1,h2⟩:=tH τ (jz h Bt) hy
   have e2:=h2.qI
   subst e2
   rw[List.append_nil]at he
   have hv:v=pk τ c1:=by
    rw[← he]
    cases hd:d.isAgg with
    | true =>
     cases d<;>simp[D.isAgg]at hd
     cases h with | agg l vs hl ho h=>simp[pk,D.isAgg]at z3i ⊢; simp[← z3i,Value.cells]
    | false =>
     rw[hd]at z3i
     simp only[pk,← z3i,Bool.false_eq_true,if_false]
     cases h<;>first | rfl | (rw[K5]; rfl) | (rename_i hu; rw[GQ hu]; rfl) | (rename_i σ y cs hc; exact absurd rfl (hni σ y)) | (simp[D.isAgg]at hd; done) | (simp[D.uE]at Bt; done)
   rw[hv]
   exact .zU τ _ c1 h1
  ·cases hx
 cases d with
 | zU σ y=>obtain⟨rfl,rfl⟩:=qE hx; exact h
 | _=>exact key (fun _ _=>nofun) hx
end
end Go.AM
namespace Go.AM
set_option linter.unusedSectionVars false
variable [uH]
def xf(P:Program)(s:Sem Next)(κ:KS)(d:Option D)(zO:St):Prop :=
 ∃ (κ':KS) (n:Next) (v:Value),s.run P κ.w=.ok n κ'.w∧(n=.value v∨(n=.skip∧v=undef))∧κ'.st=zO∧Inv κ'∧Ext κ κ'∧∀ d',d=some d'→RD κ' d' v
section
variable {c:Ctx} {κ:KS}
theorem xf.pure{s:Sem Value}{d:D}{v:Value}(hi:Inv κ)(h:s.run c.P κ.w=.ok v κ.w)(hd:RD κ d v):xf c.P (do Pure.pure (.value (← s))) κ (some d) κ.st :=
 ⟨κ,.value v,v,by simp[h],.inl rfl,rfl,hi,Ext.refl κ,fun _ he=>by cases he; exact hd⟩
theorem xf.val{d:Option D}{v:Value}(hi:Inv κ)(hd:∀ d',d=some d'→RD κ d' v):xf c.P (Pure.pure (.value v)) κ d κ.st :=
 ⟨κ,.value v,v,rfl,.inl rfl,rfl,hi,Ext.refl κ,hd⟩
theorem iT{t n:Nat}(h:me c t=some n):∃ i,c.P.info? t=some i∧i.size=n:=by
 unfold me at h
 cases hi:c.P.info? t with
 | none=>simp[hi]at h
 | some i=>exact⟨i,rfl,by simpa[hi]using h⟩
theorem run_sizeOf{t n:Nat}(h:me c t=some n)(w:World):(sizeOf t).run c.P w=.ok n w:=by
 obtain⟨i,h1,h2⟩:=iT h
 simp[sizeOf,typeInfo,h1,h2]
theorem Z4{t:Nat}{b:Bool}(h:DM c t=some b)(w:World):(isAgg t).run c.P w=.ok b w:=by
 unfold DM at h
 cases hu:c.P.underlying t with
 | none=>simp[hu]at h
 | some d =>
  simp only[isAgg,Sem.run_bind,run_underlying hu,Result.andThen_ok]
  cases d<;>simp[hu]at h<;>simp[← h]
theorem vz{t:Nat}{τ:Ty}(h:kW c t τ=true):me c t=some τ.size∧DM c t=some τ.isAgg:=by
 unfold kW at h
 simp only[Bool.and_eq_true]at h
 obtain⟨⟨_,h1⟩,h2⟩:=h
 constructor
 ·split at h1
  ·rename_i n hn; rw[hn,Nat.eq_of_beq_eq_true h1]
  ·cases h1
 ·split at h2
  ·rename_i b hb; rw[hb]; simpa using h2
  ·cases h2
theorem Xj{t:Nat}{τ:Ty}(h:kW c t τ=true):z4n τ t:=by
 unfold kW at h
 simp only[Bool.and_eq_true]at h
 intro e
 subst e
 exact Nat.eq_of_beq_eq_true h.1.1
omit [uH]in
theorem vB(blk o j:Nat):(⟨blk,o,none⟩:Addr).add j=⟨blk,o+j,none⟩:=by unfold Addr.add; split<;>simp_all
theorem lQ{t:Nat}{b:Bool}{n blk o:Nat}{cs:List Value}(ha:DM c t=some b)(hn:me c t=some n)(hl:cs.length=n)(h1:b=false→n=1)
  (hc:∀ j v,cs[j]? = some v→κ.w.cell? ⟨blk,o+j,none⟩=some v) :
  (loadVar t ⟨blk,o,none⟩).run c.P κ.w=.ok (if b then .agg cs.toArray else cs.headD undef) κ.w:=by
 simp only[loadVar,Sem.run_bind,Z4 ha,Result.andThen_ok]
 cases b with
 | true =>
  simp only[if_true,Sem.run_bind,run_sizeOf hn,Result.andThen_ok]
  rw[← hl,run_loadCells_list κ.w ⟨blk,o,none⟩ cs (fun j v hj=>by rw[vB]; exact hc j v hj)]
  simp
 | false =>
  have:=h1 rfl
  subst this
  match cs,hl with
  | [v],_ =>
   have:=hc 0 v rfl
   simp only[Nat.add_zero]at this
   simp[this]
theorem Sb{t:Nat}{τ:Ty}{x:den τ}{cs:List Value}{blk o:Nat}(ht:kW c t τ=true)(h:Rc κ.w κ.ok τ x cs)
  (hc:∀ j v,cs[j]? = some v→κ.w.cell? ⟨blk,o+j,none⟩=some v):(loadVar t ⟨blk,o,none⟩).run c.P κ.w=.ok (pk τ cs) κ.w:=by
 obtain⟨h1,h2⟩:=vz ht
 rw[lQ (c:=c) h2 h1 h.len (fun e=>VX e) hc]
 cases he:τ.isAgg<;>simp[pk,he]
theorem wK{t:T (Option D)}{st zO:St}{d:Option D}:(zX (.val t) st).leads (d,zO)↔t.leads d∧zO=st:=by
 simp only[zX,T.zY,T.leads,Prod.mk.injEq]
 constructor
 ·rintro⟨a,h,rfl,rfl⟩; exact⟨h,rfl⟩
 ·rintro⟨h,rfl⟩; exact⟨d,h,rfl,rfl⟩
theorem mQ{k:St→T (Option D)}{st zO:St}{d:Option D}:(zX (.rd k) st).leads (d,zO)↔(k st).leads d∧zO=st:=by
 simp only[zX,T.zY,T.leads,Prod.mk.injEq]
 constructor
 ·rintro⟨a,h,rfl,rfl⟩; exact⟨h,rfl⟩
 ·rintro⟨h,rfl⟩; exact⟨d,h,rfl,rfl⟩
theorem zj{st:St}{r:Option D×St}:¬ (zX bad st).leads r:=by obtain⟨d,zO⟩:=r; rw[bad,wK]; exact fun h=>h.1
theorem wh{x:D}{st zO:St}{d:Option D}:(zX (AM.val x) st).leads (d,zO)↔d=some x∧zO=st:=by
 rw[AM.val,wK]; simp only[T.leads]; exact⟨fun h=>⟨h.1.symm,h.2⟩,fun h=>⟨h.1.symm,h.2⟩⟩
theorem ve{p:Prop}{x:D}{st zO:St}{d:Option D}:(zX (.val (.zd p (.ret (some x)))) st).leads (d,zO)↔p∧d=some x∧zO=st:=by
 rw[wK]; simp only[T.leads]
 exact⟨fun h=>⟨h.1.1,h.1.2.symm,h.2⟩,fun h=>⟨⟨h.1,h.2.1.symm⟩,h.2.2⟩⟩
theorem K6{x:Option D}{st zO:St}{d:Option D}(h:(zX (z1W x) st).leads (d,zO)):∃ y,x=some y∧d=some y∧zO=st:=by
 cases x with
 | none=>exact absurd h zj
 | some y=>rw[z1W,wK]at h; exact⟨y,rfl,h.1.symm,h.2⟩
theorem UH:∀ (τ:Ty) (x:den τ) {cs:List Value},xz κ (flat τ x) cs→Rc κ.w κ.ok τ x cs
 | .int k,x,cs,h=>by obtain⟨v,r,rfl,h1,h2⟩:=h.cons_inv; rw[h2.qI]; exact h1.wO rfl
 | .bool,x,cs,h=>by obtain⟨v,r,rfl,h1,h2⟩:=h.cons_inv; rw[h2.qI]; exact h1.wO rfl
 | .str,x,cs,h=>by obtain⟨v,r,rfl,h1,h2⟩:=h.cons_inv; rw[h2.qI]; exact h1.wO rfl
 | .sl e,x,cs,h=>by obtain⟨v,r,rfl,h1,h2⟩:=h.cons_inv; rw[h2.qI]; exact h1.wO rfl
 | .nil,x,cs,h=>by rw[h.qI]; exact .nil
 | .cons a b,x,cs,h=>by
  obtain⟨c1,c2,rfl,h1,h2⟩:=xz.EE h
  exact .cons a b x.1 x.2 c1 c2 (UH a x.1 h1) (UH b x.2 h2)
 | .expr,.mk k (a,n,m,()) s l,cs,h=>by
  obtain⟨v,u,rfl,h0,t0⟩:=h.cons_inv
  obtain⟨v1,u1,rfl,h1,t1⟩:=t0.cons_inv
  obtain⟨v2,u2,rfl,h2,t2⟩:=t1.cons_inv
  obtain⟨v3,u3,rfl,h3,t3⟩:=t2.cons_inv
  obtain⟨v4,u4,rfl,h4,t4⟩:=t3.cons_inv
  obtain⟨v5,u5,rfl,h5,t5⟩:=t4.cons_inv
  rw[t5.qI]
  have e:[v,v1,v2,v3,v4,v5]=[v]++(([v1]++([v2]++([v3]++[])))++([v4]++([v5]++[]))):=rfl
  rw[e]
  exact .expr _ _ _ _ _ (.cons i64 _ k _ _ _ (h0.wO rfl) (.cons Gw _ (a,n,m,()) _ _ _ (.cons .bool _ a _ _ _ (h1.wO rfl) (.cons (.sl u32) (.cons (.sl u32) .nil) n (m,()) [v2] ([v3]++[]) (h2.wO rfl) (.cons (.sl u32) .nil m () [v3] [] (h3.wO rfl) .nil)))
      (.cons .str _ s _ _ _ (h4.wO rfl) (.cons (.sl .expr) .nil l () [v5] [] (h5.wO rfl) .nil))))
theorem Ld{t:Nat}{d r:D}{off:Nat}{vs:List Value}(h:I9 c t d off=some r)(hd:xz κ (qt d) vs)(nS:∀ x∈qt d,x.one=true) :
  (∃ n,DM c t=some true∧me c t=some n∧off+n≤vs.length∧RD κ r (.agg ((vs.drop off).take n).toArray)) ∨
  (∃ v,DM c t=some false∧vs[off]? = some v∧RD κ r v):=by
 unfold I9 at h
 split at h
 ·rename_i ha
  split at h
  ·cases h
  ·rename_i n hn
   refine .inl ⟨n,ha,hn,?_⟩
   cases hb:(Nat.beq off 0&&Nat.beq n (qt d).length&&d.zdr)with
   | true =>
    rw[hb]at h
    simp only[cond_true,Option.some.injEq]at h
    subst h
    simp only[Bool.and_eq_true]at hb
    obtain⟨⟨h1,h2⟩,h3⟩:=hb
    have e1:off=0:=Nat.eq_of_beq_eq_true h1
    have e2:n=(qt d).length:=Nat.eq_of_beq_eq_true h2
    subst e1
    have hl:=hd.1
    rw[e2,hl]
    refine⟨by omega,?_⟩
    simp only[List.drop_zero,List.take_length]
    cases d with
    | zU τ x =>
     have:=RD.zU τ x vs (UH τ x hd)
     simpa[pk,show τ.isAgg=true from h3]using this
    | agg l=>exact .agg l vs hl nS hd.2
    | _=>cases h3
   | false =>
    rw[hb]at h
    simp only[cond_false]at h
    split at h
    ·rename_i l hl
     cases h
     unfold YZ at hl
     cases hle:Nat.ble (off+n) (qt d).length with
     | false=>rw[hle]at hl; cases hl
     | true =>
      rw[hle]at hl
      cases hl
      have YL:=Nat.le_of_ble_eq_true hle
      refine⟨by rw[← hd.1]; exact YL,?_⟩
      have ht:=(hd.drop off).take n
      exact .agg _ _ ht.1 (fun x hx=>nS x (List.mem_of_mem_drop (List.mem_of_mem_take hx))) ht.2
    ·cases h
 ·rename_i ha
  obtain⟨v,h1,h2⟩:=hd.get h
  exact .inr ⟨v,ha,h1,h2⟩
 ·cases h
theorem KR{t:Nat}{d r:D}{off blk:Nat}{vs:List Value}(base:Nat)(h:I9 c t d off=some r)(hd:xz κ (qt d) vs)(nS:∀ x∈qt d,x.one=true)
  (hc:∀ j v,vs[j]? = some v→κ.w.cell? ⟨blk,base+j,none⟩=some v):∃ v,(loadVar t ⟨blk,base+off,none⟩).run c.P κ.w=.ok v κ.w∧RD κ r v:=by
 rcases Ld h hd nS with⟨n,ha,hn,hle,hr⟩ | ⟨v,ha,hv,hr⟩
 ·refine⟨_,?_,hr⟩
  rw[lQ (c:=c) (b:=true) (cs:=(vs.drop off).take n) ha hn (by simp; omega) nofun]
  ·simp
  ·intro j v hj
   rw[Nat.add_assoc]
   refine hc _ _ ?_
   rw[List.getElem?_take]at hj
   split at hj
   ·rwa [List.getElem?_drop]at hj
   ·cases hj
 ·refine⟨v,?_,hr⟩
  simp only[loadVar,Sem.run_bind,Z4 ha,Result.andThen_ok]
  simp[hc off v hv]
theorem Inv.MI{κ:KS}(hi:Inv κ){b:Nat}{x:yp}(h:κ.st[b]? = some x):fP κ b x:=hi.blk b x h
theorem tE{blk:Nat}{cs:Array Value}{t:TypeId}{fz:Nat×Nat}(h:κ.w.heap[blk]? = some (.cells cs t fz))(o:Nat):κ.w.cell? ⟨blk,o,none⟩=cs[o]? := by
 simp[World.cell?,h]
theorem O1{t:Nat}{x:Option D}{v:Value}{d:Option D}{zO:St}(hi:Inv κ)(hx:∀ y,x=some y→RD κ y v)(h:(zX (Kk c t x) κ.st).leads (d,zO)) :
  xf c.P (do Pure.pure (.value (← Instr.loadAt t v))) κ d zO:=by
 unfold Kk at h
 split at h
 ·rename_i τ y
  cases ht:kW c t τ with
  | false=>rw[ht]at h; exact absurd h zj
  | true =>
   rw[ht,cond_true,wh]at h
   obtain⟨rfl,rfl⟩:=h
   cases hx _ rfl with
   | xx _ _ cs blk off wm hr hc =>
    exact xf.pure hi (by simp[Instr.loadAt,Instr.sureAddr,Sb ht hr hc]) (.zU τ y cs hr)
 ·rename_i b off
  rw[mQ]at h
  obtain⟨h,rfl⟩:=h
  split at h
  ·rename_i d0 hb
   split at h
   ·rename_i r hr
    cases h
    cases hx _ rfl with
    | ptr _ _ blk n d1 hd hp =>
     obtain⟨mr,n',cs,T,g1,g2,g3,g4,g5⟩:=hi.blk b _ hb
     rw[hp]at g1
     cases g1
     obtain⟨v,h1,h2⟩:=KR (c:=c) (blk:=blk) 0 hr g4 g5.1 (fun j v hj=>by rw[tE g2]; simpa using hj)
     rw[Nat.zero_add]at h1
     exact xf.pure hi (by simp[Instr.loadAt,Instr.sureAddr,h1]) h2
   ·exact h.elim
  ·exact h.elim
 ·rename_i b qY e idx off
  rw[mQ]at h
  obtain⟨h,rfl⟩:=h
  split at h
  ·rename_i kT e' xs hb
   cases he:decide (e'=e)with
   | false=>rw[he]at h; exact h.elim
   | true =>
    rw[he,cond_true]at h
    have Tc:e'=e:=of_decide_eq_true he
    subst Tc
    obtain⟨⟨rfl,qu⟩,h⟩:=h
    split at h
    ·rename_i r hr
     cases h
     cases hx _ rfl with
     | uC _ _ _ _ _ blk o hold hp =>
      obtain⟨n,p1,rfl⟩:=hp xs hb qu
      obtain⟨jm,⟨XV,_⟩ | ⟨mr,n',cs,T,g1,g2,g3,g4,gr,f,g5⟩⟩:=hi.blk b _ hb
      ·subst XV; cases qu
      ·rw[p1]at g1
       cases g1
       have hg:xs.getD idx (zb e')=xs[idx]:=by simp[List.getD,List.getElem?_eq_getElem qu]
       rw[hg]at hr
       obtain⟨k1,k2⟩:=g5 idx qu
       obtain⟨v,h1,h2⟩:=KR (c:=c) (blk:=blk) (idx*e'.size) hr (sa k1) (dK _ _) (fun j v hj=>by rw[tE g2]; exact k2 j v hj)
       exact xf.pure hi (by simp[Instr.loadAt,Instr.sureAddr,h1]) h2
    ·exact h.elim
  ·exact h.elim
 ·exact absurd h zj
end
end Go.AM
namespace Go.AM
set_option linter.unusedSectionVars false
variable [uH]
section
variable {c:Ctx} {κ:KS}
theorem HN{s f o n:Nat}(h:UM c s f=some (o,n)):∃ fs fd,c.P.underlying s=some (.struct fs)∧fs[f]? = some fd∧me c fd.type=some n∧n≠0∧fd.offset=o:=by
 unfold UM at h
 split at h
 ·rename_i fs hu
  split at h
  ·rename_i fd hf
   split at h
   ·rename_i m hm
    cases hb:Nat.beq m 0 with
    | true=>rw[hb]at h; cases h
    | false =>
     rw[hb]at h
     cases h
     refine⟨fs,fd,hu,hf,hm,?_,rfl⟩
     intro e
     subst e
     cases hb
   ·cases h
  ·cases h
 ·cases h
theorem sA{s f o n blk p:Nat}(h:UM c s f=some (o,n))(w:World) :
  (Instr.fieldAt s (.pointer (some ⟨blk,p,none⟩)) f).run c.P w=.ok (.pointer (some ⟨blk,p+o,none⟩)) w:=by
 obtain⟨fs,fd,h1,h2,h3,h4,h5⟩:=HN h
 simp[Instr.fieldAt,run_underlying h1,h2,Instr.sureAddr,fieldPlace,run_sizeOf h3,h4,vB,h5]
theorem Kc:∀ (τ:Ty) (x:den τ) (n:Nat) {d:D} {o s:Nat} {cs:List Value},sR τ x n=some (d,o,s)→Rc κ.w κ.ok τ x cs →
  ∃ (σ:Ty) (y:den σ) (c2:List Value),d=.xx σ y∧Rc κ.w κ.ok σ y c2∧s=σ.size∧∀ j v,c2[j]? = some v→cs[o+j]? = some v
 | .cons a b,x,0,d,o,s,cs,h,hr=>by
  simp only[sR]at h
  cases h
  obtain⟨c1,c2,rfl,h1,h2⟩:=hr.cons_inv
  exact⟨a,x.1,c1,rfl,h1,rfl,fun j v hj=>by
   obtain⟨qu,_⟩:=List.getElem?_eq_some_iff.1 hj
   rw[Nat.zero_add,List.getElem?_append_left qu]; exact hj⟩
 | .cons a b,x,n+1,d,o,s,cs,h,hr=>by
  simp only[sR]at h
  split at h
  ·rename_i d' o' s' h'
   cases h
   obtain⟨c1,c2,rfl,h1,h2⟩:=hr.cons_inv
   obtain⟨σ,y,c3,e1,e2,e3,e4⟩:=Kc b x.2 n h' h2
   refine⟨σ,y,c3,e1,e2,e3,fun j v hj => ?_⟩
   have:=h1.len
   rw[List.getElem?_append_right (by omega)]
   have e:a.size+o'+j-c1.length=o'+j:=by omega
   rw[e]; exact e4 j v hj
  ·cases h
 | .expr,.mk k (a,n,m,()) s l,i,d,o,z,cs,h,hr=>by
  obtain⟨c1,r1,rfl,h1,t1⟩:=hr.DZ.cons_inv
  obtain⟨c2,r2,rfl,h2,t2⟩:=t1.cons_inv
  obtain⟨c3,r3,rfl,h3,t3⟩:=t2.cons_inv
  obtain⟨c4,r4,rfl,h4,t4⟩:=t3.cons_inv
  have e4:=t4.qI
  subst e4
  have l2:c2.length=3:=h2.len
  obtain⟨v1,rfl⟩:=h1.single rfl
  obtain⟨v3,rfl⟩:=h3.single rfl
  obtain⟨v4,rfl⟩:=h4.single rfl
  match i,h with
  | 0,h=>simp only[sR]at h; cases h; exact⟨i64,_,_,rfl,h1,rfl,fun j v hj=>by match j,hj with | 0,hj=>simpa using hj⟩
  | 1,h => 
   simp only[sR]at h; cases h
   refine⟨Gw,_,_,rfl,h2,rfl,fun j v hj => ?_⟩
   obtain⟨qu,_⟩:=List.getElem?_eq_some_iff.1 hj
   rw[show 1+j=j+1 by omega]
   simp only[List.cons_append,List.nil_append,List.getElem?_cons_succ]
   rw[List.getElem?_append_left qu]; exact hj
  | 2,h =>
   simp only[sR]at h; cases h
   refine⟨.str,_,_,rfl,h3,rfl,fun j v hj => ?_⟩
   match j,hj with
   | 0,hj =>
    simp only[List.cons_append,List.nil_append,Nat.add_zero,List.getElem?_cons_succ]
    rw[List.getElem?_append_right (by omega),l2]; simpa using hj
  | 3,h =>
   simp only[sR]at h; cases h
   refine⟨.sl .expr,_,_,rfl,h4,rfl,fun j v hj => ?_⟩
   match j,hj with
   | 0,hj =>
    simp only[List.cons_append,List.nil_append,Nat.add_zero,List.getElem?_cons_succ]
    rw[List.getElem?_append_right (by omega),l2]; simpa using hj
  | n+4,h=>simp[sR]at h
 | .int _,_,_,_,_,_,_,h,_ | .bool,_,_,_,_,_,_,h,_ | .str,_,_,_,_,_,_,h,_ | .sl _,_,_,_,_,_,_,h,_ | .nil,_,_,_,_,_,_,h,_=>by simp[sR]at h
theorem Jg{s f:Nat}{x:Option D}{v:Value}{d:Option D}{zO:St}(hi:Inv κ)(hx:∀ y,x=some y→RD κ y v)(h:(zX (sF c s f x) κ.st).leads (d,zO)) :
  xf c.P (do Pure.pure (.value (← Instr.fieldAt s v f))) κ d zO:=by
 unfold sF at h
 split at h
 ·exact absurd h zj
 ·rename_i o n hf
  split at h
  ·rename_i τ y
   split at h
   ·rename_i d' o' n' Wx
    cases hb:Nat.beq o o'&&Nat.beq n n' with
    | false=>rw[hb]at h; exact absurd h zj
    | true =>
     rw[hb,cond_true,wh]at h
     obtain⟨rfl,rfl⟩:=h
     simp only[Bool.and_eq_true]at hb
     have e1:o=o':=Nat.eq_of_beq_eq_true hb.1
     subst e1
     cases hx _ rfl with
     | xx _ _ cs blk off wm hr hc =>
      obtain⟨σ,z,c2,rfl,g1,g2,g3⟩:=Kc τ y f Wx hr
      exact xf.pure hi (sA hf κ.w) (.xx σ z c2 blk (off+o) wm g1 fun j u hj=>by rw[Nat.add_assoc]; exact hc _ _ (g3 j u hj))
   ·exact absurd h zj
  ·rename_i b off
   rw[wh]at h
   obtain⟨rfl,rfl⟩:=h
   cases hx _ rfl with
   | ptr _ _ blk n d hd hp=>exact xf.pure hi (sA hf κ.w) (.ptr b (off+o) blk n d hd hp)
  ·rename_i b qY e idx off
   rw[wh]at h
   obtain⟨rfl,rfl⟩:=h
   cases hx _ rfl with
   | uC _ _ _ _ _ blk p hold hp =>
    refine xf.pure hi (sA hf κ.w) (.uC b qY e idx (off+o) blk (p+o) hold fun xs h1 h2 => ?_)
    obtain⟨n,h3,h4⟩:=hp xs h1 h2
    exact⟨n,h3,by omega⟩
  ·exact absurd h zj
theorem F8{s f:Nat}{x:Option D}{v:Value}{d:Option D}{zO:St}(hi:Inv κ)(hx:∀ y,x=some y→RD κ y v)(h:(zX (Bj c s f x) κ.st).leads (d,zO)) :
  xf c.P (do Pure.pure (.value (← Instr.field s v f))) κ d zO:=by
 unfold Bj at h
 split at h
 ·rename_i fs hu
  split at h
  ·rename_i fd hf
   split at h
   ·rename_i y
    obtain⟨r,hr,rfl,rfl⟩:=K6 h
    cases hag:y.eH with
    | false=>rw[hag]at hr; cases hr
    | true =>
    rw[hag,cond_true]at hr
    have hy:=hx _ rfl
    have ⟨vs,hv,hvs⟩:∃ vs,v=.agg vs∧xz κ (qt y) vs.toList:=by
     have hfd:=jz hy (by cases y<;>simp[D.eH,D.uE]at hag ⊢)
     cases hy<;>simp[D.eH]at hag
     ·rename_i τ z cs hc
      exact⟨cs.toArray,by simp[pk,hag],by simpa[pk,hag,Value.cells]using hfd⟩
     ·rename_i l vs hl ho hh
      exact⟨vs.toArray,rfl,by simpa[Value.cells]using hfd⟩
    subst hv
    rcases Ld hr hvs (jx hy)with⟨n,ha,hn,hle,hrd⟩ | ⟨u,ha,hu',hrd⟩
    ·refine xf.pure hi ?_ hrd
     simp only[Instr.field,Sem.run_bind,run_underlying hu,Result.andThen_ok,hf,asAgg,Sem.run_pure,part,Z4 ha,if_true,run_sizeOf hn]
     congr 2
     apply Array.ext'
     simp[Array.toList_extract,List.extract]
    ·refine xf.pure hi ?_ hrd
     have:vs[fd.offset]? = some u:=by simpa using hu'
     simp[Instr.field,run_underlying hu,hf,asAgg,part,Z4 ha,this]
   ·exact absurd h zj
  ·exact absurd h zj
 ·exact absurd h zj
theorem ux{t e:Nat}(h:lR c t=some e):c.P.underlying t=some (.slice e):=by
 unfold lR at h
 split at h
 ·rename_i e' hu; cases h; exact hu
 ·cases h
theorem uu{x:Option D}{k:IntKind}{n:Int}{v:Value}(h:asInt x=some (k,n))(hx:∀ y,x=some y→RD κ y v):v=.int k n:=by
 unfold asInt at h
 split at h
 ·cases h; exact(hx _ rfl).fu
 ·cases h
theorem rW{x:Option D}{s:zf}{v:Value}(h:JG x=some s)(hx:∀ y,x=some y→RD κ y v):v=.string ⟨s.toArray⟩:=by
 unfold JG at h
 split at h
 ·cases h; exact(hx _ rfl).lL
 ·cases h
theorem tD{x:Option D}{b:Bool}{v:Value}(h:asBool x=some b)(hx:∀ y,x=some y→RD κ y v):v=.bool b:=by
 unfold asBool at h
 split at h
 ·cases h; exact(hx _ rfl).bm
 ·cases h
theorem UT{α:Type}{l:List α}{i:Nat}(h:i<l.length)(d:α):List.getD l i d=l[i]:=by simp[List.getD,List.getElem?_eq_getElem h]
theorem sY{a:Ty}(x:den a):(vW x:Option (den a))=some x:=by simp[vW]
theorem Ce{w:World}{ok:Nat→Prop}:∀ (τ:Ty) (e:Ty) (n:Nat) (x:den τ) (cs:List Value) (i:Nat),DH τ=some (e,n)→Rc w ok τ x cs→i<n →
  ∃ c,Rc w ok e (Cu e τ x i) c∧∀ j v,c[j]? = some v→cs[i*e.size+j]? = some v
 | .cons a b,e,n,x,cs,i,ht,hr,hi=>by
  obtain⟨c1,c2,rfl,h1,h2⟩:=hr.cons_inv
  have key:∀ m,(b=.nil∧m=0∨DH b=some (a,m))→i<m+1→∃ c,Rc w ok a (Cu a (.cons a b) x i) c∧∀ j v,c[j]? = some v→(c1++c2)[i*a.size+j]? = some v:=by
   intro m hm hi
   cases i with
   | zero =>
    refine⟨c1,by simp only[Cu,sY]; exact h1,fun j v hj => ?_⟩
    rw[Nat.zero_mul,Nat.zero_add,List.getElem?_append_left (List.getElem?_eq_some_iff.1 hj).1]; exact hj
   | succ i =>
    rcases hm with⟨rfl,rfl⟩ | hm
    ·omega
    ·obtain⟨c,g1,g2⟩:=Ce b a m x.2 c2 i hm h2 (by omega)
     refine⟨c,g1,fun j v hj => ?_⟩
     have hl:=h1.len
     have:=g2 j v hj
     rw[List.getElem?_append_right (by rw[hl,Nat.add_mul]; omega),hl]
     rw[← this]; congr 1
     rw[Nat.add_mul]; omega
  unfold DH at ht
  split at ht
  ·cases ht; exact key 0 (.inl ⟨rfl,rfl⟩) (by omega)
  ·split at ht
   ·rename_i e' m hb
    cases hd:decide (a=e')with
    | false=>rw[hd]at ht; cases ht
    | true =>
     rw[hd,cond_true]at ht
     cases ht
     have:=of_decide_eq_true hd
     subst this
     exact key m (.inr hb) hi
   ·cases ht
 | .int _,_,_,_,_,_,ht,_,_=>by cases ht
 | .bool,_,_,_,_,_,ht,_,_=>by cases ht
 | .str,_,_,_,_,_,ht,_,_=>by cases ht
 | .sl _,_,_,_,_,_,ht,_,_=>by cases ht
 | .nil,_,_,_,_,_,ht,_,_=>by cases ht
 | .expr,_,_,_,_,_,ht,_,_=>by cases ht
theorem NJ{t n e:Nat}(h:z8j c t=some (n,e)):c.P.underlying t=some (.array n e):=by
 unfold z8j at h
 split at h
 ·rename_i hu; cases h; exact hu
 ·cases h
theorem Yz{t:Nat}{x i:Option D}{k:IntKind}{n:Int}{v u:Value}{d:Option D}{zO:St}(hi:Inv κ)(hx:∀ y,x=some y→RD κ y v)(hy:∀ y,i=some y→RD κ y u)(XR:asInt i=some (k,n))
  (h:(zX (Yn c t x n) κ.st).leads (d,zO)):xf c.P (do Pure.pure (.value (← Instr.indexAt t v u))) κ d zO:=by
 have hu':=uu XR hy
 subst hu'
 unfold Yn at h
 split at h
 ·rename_i m et τ y ha
  have hu:=NJ ha
  split at h
  ·rename_i e m' MA
   cases ht:kW c et e&&Nat.beq m m' with
   | false=>rw[ht]at h; exact absurd h zj
   | true =>
    rw[ht,cond_true,ve]at h
    simp only[Bool.and_eq_true]at ht
    have:=Nat.eq_of_beq_eq_true ht.2
    subst this
    obtain⟨⟨h0,h1⟩,rfl,rfl⟩:=h
    obtain⟨hs,_⟩:=vz ht.1
    cases hx _ rfl with
    | xx _ _ cs blk off wm hrc hc =>
     obtain⟨cc,g1,g2⟩:=Ce τ e m y cs n.toNat MA hrc (by omega)
     refine xf.pure hi ?_ (.xx e _ cc blk (off+n.toNat*e.size) wm g1 fun j v hj=>by rw[Nat.add_assoc]; exact hc _ v (g2 j v hj))
     simp[Instr.indexAt,asIntOf,run_underlying hu,h0,h1,run_sizeOf hs,vB,Instr.sureAddr]
  ·exact absurd h zj
 ·exact absurd h zj
theorem Yj{t:Nat}{x i:Option D}{v u:Value}{d:Option D}{zO:St}(hi:Inv κ)(hx:∀ y,x=some y→RD κ y v)(hy:∀ y,i=some y→RD κ y u)
  (h:(zX (sn c t x i) κ.st).leads (d,zO)):xf c.P (do Pure.pure (.value (← Instr.indexAt t v u))) κ d zO:=by
 unfold sn at h
 split at h
 ·rename_i k n het XR
  exact Yz hi hx hy XR h
 ·rename_i et k n het XR
  have hu:=ux het
  have hu':=uu XR hy
  subst hu'
  split at h
  ·rename_i e l
   cases ht:kW c et e with
   | false=>rw[ht]at h; exact absurd h zj
   | true =>
    rw[ht,cond_true,ve]at h
    obtain⟨⟨h0,h1⟩,rfl,rfl⟩:=h
    obtain⟨hs,_⟩:=vz ht
    have qu:n.toNat<List.length l:=by omega
    rcases((hx _ rfl).wO rfl).og with⟨rfl,_⟩ | ⟨blk,off,cap,f,he,wm,wH,hh,hc⟩
    ·cases qu
    ·cases he
     rw[UT qu]
     refine xf.pure hi ?_ (.xx e _ (f n.toNat) blk (off+n.toNat*e.size) wm (hh _ qu) fun j v hj=>hc _ qu j v hj)
     simp[Instr.indexAt,asIntOf,run_underlying hu,h0,h1,run_sizeOf hs,vB]
  ·rename_i e l ne
   cases ht:kW c et e with
   | false=>rw[ht]at h; exact absurd h zj
   | true =>
    rw[ht,cond_true,ve]at h
    obtain⟨⟨h0,h1⟩,rfl,rfl⟩:=h
    obtain⟨hs,_⟩:=vz ht
    have qu:n.toNat<List.length l:=by omega
    cases hx _ rfl with
    | xJ=>cases qu
    | tight _ _ _ blk off f uv wm hh hc =>
     rw[UT qu]
     refine xf.pure hi ?_ (.xx e _ (f n.toNat) blk (off+n.toNat*e.size) wm (hh _ qu) fun j v hj=>hc _ qu j v hj)
     simp[Instr.indexAt,asIntOf,run_underlying hu,h0,h1,run_sizeOf hs,vB]
  ·rename_i b qY e off len
   cases ht:kW c et e with
   | false=>rw[ht]at h; exact absurd h zj
   | true =>
    rw[ht,cond_true,ve]at h
    obtain⟨⟨h0,h1⟩,rfl,rfl⟩:=h
    obtain⟨hs,_⟩:=vz ht
    cases hx _ rfl with
    | ms _ _ _ _ _ cap a hold wH ha Z1 hm =>
     cases a with
     | none=>have:=ha rfl; omega
     | some p =>
      have hp:=Z1 p rfl
      obtain⟨blk,o,sp⟩:=p
      simp only at hp
      subst hp
      refine xf.pure hi (v:=.pointer (some ⟨blk,o+n.toNat*e.size,none⟩)) ?_ (.uC b qY e (off+n.toNat) 0 blk _ hold fun xs hb qu => ?_)
      ·simp[Instr.indexAt,asIntOf,run_underlying hu,h0,h1,run_sizeOf hs,vB]
      ·obtain⟨hle,⟨_,_,hv,_⟩ | ⟨mr,n',o',Uy,h3,h4,h5,h6,h7⟩⟩:=hm xs hb
       ·cases hv
       ·cases h4
        refine⟨n',h3,?_⟩
        rcases h7 with h7 | h7
        ·omega
        ·subst h7; rw[Nat.add_mul]; rfl
  ·exact absurd h zj
 ·exact absurd h zj
theorem NX(s:zf){i:Nat}(h:i<s.length):(⟨s.toArray⟩:ByteArray)[i]? = some s[i]:=by
 have jm:(⟨s.toArray⟩:ByteArray).size=s.length:=rfl
 rw[getElem?_pos _ _ (by rw[jm]; exact h)]
 rfl
theorem F0{t:Nat}{x i:Option D}{v u:Value}{d:Option D}{zO:St}(hi:Inv κ)(hx:∀ y,x=some y→RD κ y v)(hy:∀ y,i=some y→RD κ y u)
  (h:(zX (Bq c t x i) κ.st).leads (d,zO)):xf c.P (do Pure.pure (.value (← Instr.index t v u))) κ d zO:=by
 unfold Bq at h
 split at h
 ·rename_i k n s XR hs hu
  have hu':=uu XR hy
  subst hu'
  have hv:=rW hs hx
  subst hv
  rw[ve]at h
  obtain⟨⟨h0,h1⟩,rfl,rfl⟩:=h
  have qu:n.toNat<s.length:=by omega
  rw[UT qu]
  exact xf.pure hi (by simp[Instr.index,asIntOf,run_underlying hu,h0,NX s qu]) RD.int
 ·exact absurd h zj
def VS(κ:KS):Option (Option D)→Option Value→Prop
 | none,none=>True
 | some x,some v=>∀ y,x=some y→RD κ y v
 | _,_=>False
theorem Kx{d n:Int}{x:Option (Option D)}{v:Option Value}(h:OJ d x=some n)(hx:VS κ x v):(x=none∧v=none∧n=d)∨(x.isSome∧∃ k,v=some (.int k n)):=by
 cases x with
 | none=>cases v with
  | none=>exact .inl ⟨rfl,rfl,by simpa[OJ]using h.symm⟩
  | some v=>exact hx.elim
 | some x=>cases v with
  | none=>exact hx.elim
  | some v =>
   simp only[OJ]at h
   split at h
   ·rename_i k i hk; cases h; exact .inr ⟨rfl,k,by rw[uu hk hx]⟩
   ·cases h
end
end Go.AM
namespace Go.AM
set_option linter.unusedSectionVars false
variable [uH]
section
variable {c:Ctx} {κ:KS}
theorem jR{P:Program}{isS:Bool}{len cap:Nat}{lo hi mx:Option Value}{l h:Int}{m:Nat}
  (hl:(lo=none∧l=0)∨∃ k,lo=some (.int k l)) (hh:(hi=none∧mx=none∧h=len)∨∃ k,hi=some (.int k h))
  (hm:(mx=none∧m=cap)∨∃ k,mx=some (.int k m)) (h0:0≤l) (h1:l≤h) (h2:h≤m) (h3:m≤cap) (w:World) :
  (Instr.sliceBounds isS len cap lo hi mx).run P w=.ok (l.toNat,h.toNat,m) w:=by
 have hh0:(0:Int)≤h:=by omega
 have nG:l≤(h.toNat:Int):=by omega
 rcases hl with⟨rfl,rfl⟩ | ⟨k1,rfl⟩<;>rcases hm with⟨rfl,rfl⟩ | ⟨k3,rfl⟩<;>rcases hh with⟨rfl,hx,rfl⟩ | ⟨k2,rfl⟩ <;>
  first
   | (cases hx; done)
   | (simp[Instr.sliceBounds,run_sliceBound, *]; done)
   | (simp[Instr.sliceBounds,run_sliceBound, *]; rw[run_sliceBound _ _ _ _ _ h0 nG]; rfl)
theorem CR(s:zf)(l h:Int):(⟨s.toArray⟩:ByteArray).extract l.toNat h.toNat=⟨(bS l h s).toArray⟩:=by
 apply ByteArray.ext
 rw[ByteArray.data_extract]
 apply Array.ext'
 simp[bS,List.extract,List.drop_take]
theorem JR{n:Int}{x:Option (Option D)}{v:Option Value}(h:OJ 0 x=some n)(hx:VS κ x v):(v=none∧n=0)∨∃ k,v=some (.int k n):=by
 rcases Kx h hx with⟨_,h1,h2⟩ | ⟨_,h1⟩
 ·exact .inl ⟨h1,h2⟩
 ·exact .inr h1
theorem HH{d n:Int}{x:Option (Option D)}{v:Option Value}(h:OJ d x=some n)(hx:VS κ x v):(v=none∧n=d)∨∃ k,v=some (.int k n):=by
 rcases Kx h hx with⟨_,h1,h2⟩ | ⟨_,h1⟩
 ·exact .inl ⟨h1,h2⟩
 ·exact .inr h1
theorem XP{v:Option Value}(h:VS κ none v):v=none:=by cases v with | none=>rfl | some _=>exact h.elim
theorem tW{e:Ty}{l:List (den e)}{lo hi:Int}(h0:0≤lo)(h1:lo≤hi)(h2:hi≤(l.length:Int)) :
  (uz lo hi l).length=hi.toNat-lo.toNat∧∀ i (Yp:i<(uz lo hi l).length),∃ h:lo.toNat+i<l.length,(uz lo hi l)[i]=l[lo.toNat+i]:=by
 have hlen:(uz lo hi l).length=hi.toNat-lo.toNat:=by simp[uz]; omega
 refine⟨hlen,fun i Yp=>⟨by omega,?_⟩⟩
 simp[uz,List.getElem_drop,List.getElem_take]
theorem EJ{e:Ty}{l:List (den e)}{lo hi:Int}{blk off cap m:Nat}{f:Nat→List Value}(wm:κ.ok blk)
  (hh:∀ i (hi:i<l.length),Rc κ.w κ.ok e l[i] (f i)) (hc:∀ i,i<l.length→∀ j v,(f i)[j]? = some v→κ.w.cell? ⟨blk,off+i*e.size+j,none⟩=some v)
  (h0:0≤lo) (h1:lo≤hi) (h2:hi≤(l.length:Int)) (hm:hi≤(m:Int)) (wH:m≤cap) :
  (∀ i (Yp:i<(uz lo hi l).length),Rc κ.w κ.ok e (uz lo hi l)[i] (f (lo.toNat+i))) ∧
  (∀ i,i<(uz lo hi l).length→∀ j v,(f (lo.toNat+i))[j]? = some v →
   κ.w.cell? ⟨blk,(if m=lo.toNat then off else off+lo.toNat*e.size)+i*e.size+j,none⟩=some v)∧(uz lo hi l).length≤m-lo.toNat:=by
 obtain⟨hl,hg⟩:=tW h0 h1 h2
 refine⟨fun i Yp => ?_,fun i Yp j v hj => ?_,by omega⟩
 ·obtain⟨h3,h4⟩:=hg i Yp
  rw[h4]; exact hh _ h3
 ·obtain⟨h3,h4⟩:=hg i Yp
  have:=hc _ h3 j v hj
  rw[if_neg (by omega)]
  rw[Nat.add_mul,← Nat.add_assoc]at this
  exact this
theorem EC{t:Nat}{x:Option D}{lo hi mx:Option (Option D)}{v:Value}{vl vh vm:Option Value}{d:Option D}{zO:St}(hI:Inv κ)(hx:∀ y,x=some y→RD κ y v)
  (hlo:VS κ lo vl) (hhi:VS κ hi vh) (hmx:VS κ mx vm)
  (h:(zX (HM c t x lo hi mx) κ.st).leads (d,zO)):xf c.P (do Pure.pure (.value (← Instr.sliceAt t v vl vh vm))) κ d zO:=by
 unfold HM at h
 split at h
 ·rename_i s
  obtain⟨s,rfl⟩:∃ s':zf,s=s':=⟨s,rfl⟩
  split at h
  ·rename_i l hh hu hl hh'
   rw[ve]at h
   obtain⟨⟨h0,h1,h2⟩,rfl,rfl⟩:=h
   have hv:=(hx _ rfl).lL
   subst hv
   have e1:=XP hmx
   subst e1
   refine xf.pure hI ?_ RD.str
   have jm:(⟨s.toArray⟩:ByteArray).size=s.length:=rfl
   have hb:=jR (P:=c.P) (isS:=false) (len:=s.length) (cap:=s.length) (mx:=none) (m:=s.length) (JR hl hlo)
    (cp (HH hh' hhi) (fun h=>⟨h.1,rfl,h.2⟩) id) (.inl ⟨rfl,rfl⟩) h0 h1 h2 (Nat.le_refl _) κ.w
   simp only[Instr.sliceAt,Sem.run_bind,run_underlying hu,Result.andThen_ok,Instr.slice,Option.isSome_none,Bool.false_eq_true,if_false,jm,hb,CR]
   rfl
  ·exact absurd h zj
 ·rename_i e s
  split at h
  ·rename_i et l hh het hl hh'
   have hu:=ux het
   cases ht:kW c et e with
   | false=>rw[ht]at h; exact absurd h zj
   | true =>
    obtain⟨hs,_⟩:=vz ht
    rw[ht,cond_true]at h
    split at h
    ·rw[ve]at h
     obtain⟨⟨h0,h1,h2⟩,rfl,rfl⟩:=h
     have e1:=XP hmx
     subst e1
     have YD:=JR hl hlo
     have Yt:(vh=none∧(none:Option Value)=none∧hh=(s.length:Int))∨∃ k,vh=some (.int k hh):=cp (HH hh' hhi) (fun h=>⟨h.1,rfl,h.2⟩) id
     rcases((hx _ rfl).wO rfl).og with⟨rfl,a0,he⟩ | ⟨blk,off,cap,f,he,wm,wH,FI,RW⟩
     ·cases he
      simp only[List.length_nil,Int.cast_ofNat_Int]at h2
      have hb:=jR (P:=c.P) (isS:=true) (len:=0) (cap:=0) (mx:=none) (m:=0) YD Yt (.inl ⟨rfl,rfl⟩) h0 h1 h2 (Nat.le_refl _) κ.w
      have e0:l=0:=by omega
      have e2:hh=0:=by omega
      subst e0 e2
      refine xf.pure hI (v:=.slice a0 0 0) ?_ (.nD rfl (.iG e a0))
      simp[Instr.sliceAt,run_underlying hu,Instr.slice,hb,run_sizeOf hs]
     ·cases he
      obtain⟨k1,k2,k3⟩:=EJ (lo:=l) (hi:=hh) (cap:=cap) (m:=cap) wm FI RW h0 h1 h2 (by omega) (Nat.le_refl _)
      have hb:=jR (P:=c.P) (isS:=true) (len:=s.length) (cap:=cap) (mx:=none) (m:=cap) YD Yt (.inl ⟨rfl,rfl⟩) h0 h1 (by omega) (Nat.le_refl _) κ.w
      have hlen:=(tW h0 h1 h2).1
      refine xf.pure hI ?_ (.nD rfl (.sl e (uz l hh s) blk _ (cap-l.toNat) _ wm k3 k1 k2))
      simp only[Instr.sliceAt,Sem.run_bind,run_underlying hu,Result.andThen_ok,Instr.slice,hb,run_sizeOf hs,Sem.run_pure,hlen]
      congr 3
      split<;>simp[vB]
    ·split at h
     ·rename_i mx m km mi hm'
      cases hhs:hi.isSome with
      | false=>rw[hhs]at h; exact absurd h zj
      | true =>
      rw[hhs,cond_true,ve]at h
      obtain⟨⟨h0,h1,rfl,h2⟩,rfl,rfl⟩:=h
      obtain⟨vm,rfl⟩:∃ u,vm=some u:=by cases vm with | none=>exact hmx.elim | some u=>exact⟨u,rfl⟩
      have hvm:=uu hm' hmx
      subst hvm
      have YD:=JR hl hlo
      have Yt:(vh=none∧(some (Value.int km hh):Option Value)=none∧hh=(s.length:Int))∨∃ k,vh=some (.int k hh):=by
       rcases Kx hh' hhi with⟨g1,_⟩ | ⟨_,g⟩
       ·rw[g1]at hhs; cases hhs
       ·exact .inr g
      have em:((hh.toNat:Nat):Int)=hh:=by omega
      rcases((hx _ rfl).wO rfl).og with⟨rfl,a0,he⟩ | ⟨blk,off,cap,f,he,wm,wH,FI,RW⟩
      ·cases he
       simp only[List.length_nil,Int.cast_ofNat_Int]at h2
       have hb:=jR (P:=c.P) (isS:=true) (len:=0) (cap:=0) (mx:=some (.int km hh)) (m:=hh.toNat) YD Yt (.inr ⟨km,by rw[em]⟩) h0 h1 (by omega) (by omega) κ.w
       have e0:l=0:=by omega
       have e2:hh=0:=by omega
       subst e0 e2
       refine xf.pure hI (v:=.slice a0 0 0) ?_ (.xJ e a0)
       simp[Instr.sliceAt,run_underlying hu,Instr.slice,hb,run_sizeOf hs]
      ·cases he
       obtain⟨k1,k2,k3⟩:=EJ (lo:=l) (hi:=hh) (cap:=cap) (m:=hh.toNat) wm FI RW h0 h1 h2 (by omega) (by omega)
       have hb:=jR (P:=c.P) (isS:=true) (len:=s.length) (cap:=cap) (mx:=some (.int km hh)) (m:=hh.toNat) YD Yt (.inr ⟨km,by rw[em]⟩) h0 h1 (by omega) (by omega) κ.w
       have hlen:=(tW h0 h1 h2).1
       refine xf.pure hI ?_ (.tight e (uz l hh s) false blk _ _ nofun wm k1 k2)
       simp only[Instr.sliceAt,Sem.run_bind,run_underlying hu,Result.andThen_ok,Instr.slice,hb,run_sizeOf hs,Sem.run_pure,hlen]
       congr 3
       split<;>simp[vB]
     ·exact absurd h zj
  ·exact absurd h zj
 ·rename_i e s ne
  split at h
  ·rename_i et l hh het hl hh'
   have hu:=ux het
   cases ht:kW c et e with
   | false=>rw[ht]at h; exact absurd h zj
   | true =>
    obtain⟨hs,_⟩:=vz ht
    rw[ht,cond_true,ve]at h
    obtain⟨⟨h0,h1,h2⟩,rfl,rfl⟩:=h
    have e1:=XP hmx
    subst e1
    have YD:=JR hl hlo
    have Yt:(vh=none∧(none:Option Value)=none∧hh=(s.length:Int))∨∃ k,vh=some (.int k hh):=cp (HH hh' hhi) (fun h=>⟨h.1,rfl,h.2⟩) id
    cases hx _ rfl with
    | xJ _ a0 =>
     simp only[List.length_nil,Int.cast_ofNat_Int]at h2
     have hb:=jR (P:=c.P) (isS:=true) (len:=0) (cap:=0) (mx:=none) (m:=0) YD Yt (.inl ⟨rfl,rfl⟩) h0 h1 h2 (Nat.le_refl _) κ.w
     have e0:l=0:=by omega
     have e2:hh=0:=by omega
     subst e0 e2
     refine xf.pure hI (v:=.slice a0 0 0) ?_ (.nD rfl (.iG e a0))
     simp[Instr.sliceAt,run_underlying hu,Instr.slice,hb,run_sizeOf hs]
    | tight _ _ _ blk off f uv wm FI RW =>
     obtain⟨k1,k2,k3⟩:=EJ (lo:=l) (hi:=hh) (cap:=s.length) (m:=s.length) wm FI RW h0 h1 h2 (by omega) (Nat.le_refl _)
     have hb:=jR (P:=c.P) (isS:=true) (len:=s.length) (cap:=s.length) (mx:=none) (m:=s.length) YD Yt (.inl ⟨rfl,rfl⟩) h0 h1 (by omega) (Nat.le_refl _) κ.w
     have hlen:=(tW h0 h1 h2).1
     refine xf.pure hI ?_ (.nD rfl (.sl e (uz l hh s) blk _ (s.length-l.toNat) _ wm k3 k1 k2))
     simp only[Instr.sliceAt,Sem.run_bind,run_underlying hu,Result.andThen_ok,Instr.slice,hb,run_sizeOf hs,Sem.run_pure,hlen]
     congr 3
     split<;>simp[vB]
  ·exact absurd h zj
 ·rename_i b qY e off len
  split at h
  ·rename_i et l hh het hl hh'
   have hu:=ux het
   cases ht:kW c et e with
   | false=>rw[ht]at h; exact absurd h zj
   | true =>
    obtain⟨hs,_⟩:=vz ht
    rw[ht,cond_true,ve]at h
    obtain⟨⟨h0,h1,h2⟩,rfl,rfl⟩:=h
    have e1:=XP hmx
    subst e1
    have YD:=JR hl hlo
    have Yt:(vh=none∧(none:Option Value)=none∧hh=(len:Int))∨∃ k,vh=some (.int k hh):=cp (HH hh' hhi) (fun h=>⟨h.1,rfl,h.2⟩) id
    cases hx _ rfl with
    | ms _ _ _ _ _ cap a hold wH ha Z1 hm =>
     have hb:=jR (P:=c.P) (isS:=true) (len:=len) (cap:=cap) (mx:=none) (m:=cap) YD Yt (.inl ⟨rfl,rfl⟩) h0 h1 (by omega) (Nat.le_refl _) κ.w
     refine xf.pure hI (v:=.slice (if cap=l.toNat then a else a.map (·.add (l.toNat*e.size))) (hh.toNat-l.toNat) (cap-l.toNat)) ?_ (.ms b qY e _ _ _ _ hold (by omega) ?_ ?_ ?_)
     ·simp only[Instr.sliceAt,Sem.run_bind,run_underlying hu,Result.andThen_ok,Instr.slice,hb,run_sizeOf hs,Sem.run_pure]
     ·intro hn
      split at hn
      ·have:=ha hn; omega
      ·cases a with | none=>have:=ha rfl; omega | some p=>cases hn
     ·intro p hp
      split at hp
      ·exact Z1 p hp
      ·cases a with
       | none=>cases hp
       | some q =>
        obtain⟨q1,q2,q3⟩:=q
        have:=Z1 _ rfl
        simp only at this
        subst this
        simp only[Option.map_some,vB,Option.some.injEq]at hp
        subst hp; rfl
     ·intro xs VN
      obtain⟨hle,⟨rfl,rfl,hv,hp⟩ | ⟨mr,n',o',Uy,h3,h4,h5,h6,h7⟩⟩:=hm xs VN
      ·cases hv
       have e0:l=0:=by omega
       have e2:hh=0:=by omega
       subst e0 e2
       exact⟨by simp,.inl ⟨rfl,rfl,rfl,hp⟩⟩
      ·cases h4
       refine⟨by omega,.inr ?_⟩
       by_cases J8:cap=l.toNat
       ·refine⟨mr,n',o',0,h3,?_,by omega,?_,.inl rfl⟩
        ·simp[J8]
        ·have:(off+l.toNat+0)=off+cap:=by omega
         rw[this]; exact h6
       ·refine⟨mr,n',o'+l.toNat*e.size,cap-l.toNat,h3,?_,by omega,?_,.inr ?_⟩
        ·simp[J8,vB]
        ·have:off+l.toNat+(cap-l.toNat)=off+cap:=by omega
         rw[this]; exact h6
        ·rcases h7 with h7 | h7
         ·omega
         ·rw[h7,Nat.add_mul]
  ·exact absurd h zj
 ·exact absurd h zj
end
end Go.AM
namespace Go.AM
set_option linter.unusedSectionVars false
variable [uH]
section
variable {c:Ctx} {κ:KS}
theorem sH(op:BinOp)(t:Nat)(x y:Operand)(k k':IntKind)(a b:Int)(P:Program)(w:World):(eqGuard op t x y (.int k a) (.int k' b)).run P w=.ok () w:=by
 unfold eqGuard; split<;>simp
theorem CJ(op:BinOp)(t:Nat)(x y:Operand)(a b:ByteArray)(P:Program)(w:World):(eqGuard op t x y (.string a) (.string b)).run P w=.ok () w:=by
 unfold eqGuard; split<;>simp
theorem Bl(op:BinOp)(t:Nat)(x y:Operand)(a b:Bool)(P:Program)(w:World):(eqGuard op t x y (.bool a) (.bool b)).run P w=.ok () w:=by
 unfold eqGuard; split<;>simp
theorem yA{k:IntKind}{n:Int}{st zO:St}{d:Option D}:(zX (ib k n) st).leads (d,zO)↔d=some (.zU (.int k) n)∧zO=st:=wh
theorem W5{b:Bool}{st zO:St}{d:Option D}:(zX (bb b) st).leads (d,zO)↔d=some (.zU .bool b)∧zO=st:=wh
theorem Fe{op:BinOp}{k:IntKind}{a b:Int}{d:Option D}{st zO:St}{t:Nat}(h:(zX (Ey op k a b) st).leads (d,zO))(hs:J9 op=false) :
  ∃ y v,d=some y∧zO=st∧(binOp op t (.int k a) (.int k b)).run c.P κ.w=.ok v κ.w∧RD κ y v:=by
 cases op<;>simp only[Ey]at h<;>try (exact absurd h zj)
 all_goals first
  | (rw[yA]at h; obtain⟨rfl,rfl⟩:=h; exact⟨_,_,rfl,rfl,by simp[binOp,Op.intArith,Op.intBits,nU],RD.int⟩)
  | (rw[W5]at h; obtain⟨rfl,rfl⟩:=h; exact⟨_,_,rfl,rfl,by simp[binOp,Op.intCmp],RD.bool⟩)
  | (rw[ve]at h; obtain⟨hb,rfl,rfl⟩:=h; exact⟨_,_,rfl,rfl,by simp[binOp,Op.intDiv,hb],RD.int⟩)
theorem Ew{op:BinOp}{a b:zf}{d:Option D}{st zO:St}{t:Nat}(h:(zX (FN op a b) st).leads (d,zO))(hs:J9 op=false) :
  ∃ y v,d=some y∧zO=st∧(binOp op t (.string ⟨a.toArray⟩) (.string ⟨b.toArray⟩)).run c.P κ.w=.ok v κ.w∧RD κ y v:=by
 have jm:∀ s:zf,(⟨s.toArray⟩:ByteArray).size=s.length:=fun _=>rfl
 cases op<;>simp only[FN]at h<;>try (exact absurd h zj)
 case add =>
  rw[ve]at h; obtain⟨hb,rfl,rfl⟩:=h
  refine⟨_,_,rfl,rfl,?_,RD.str⟩
  have e:(⟨a.toArray⟩++⟨b.toArray⟩:ByteArray)=⟨(cat a b).toArray⟩:=by
   apply ByteArray.ext; rw[ByteArray.data_append]; simp[cat]
  have hn:¬ (IntKind.i64.max<((a.length+b.length:Nat):Int)):=by
   have:IntKind.i64.max=9223372036854775807:=by decide
   omega
  simp only[binOp,Op.stringOp,jm,gt_iff_lt,hn,if_false,e]
  rfl
 all_goals (rw[W5]at h; obtain⟨rfl,rfl⟩:=h; exact⟨_,_,rfl,rfl,by simp[binOp,Op.stringOp,zM,strLt],RD.bool⟩)
theorem I2{P:Program}{t:Nat}(hu:P.underlying t=some .bool)(a b:Bool)(w:World):(Op.equal t (.bool a) (.bool b)).run P w=.ok (a==b) w:=by
 unfold Op.equal
 show(Op.equalIn (9999+1) t _ _).run P w=_
 rw[Op.equalIn]
 simp only[Sem.run_bind,run_underlying hu,Result.andThen_ok,Sem.run_pure]
theorem T8{op:BinOp}{t:Nat}{px py:Operand}{x y:Option D}{v u:Value}{d:Option D}{zO:St}(hI:Inv κ)(hx:∀ z,x=some z→RD κ z v)(hy:∀ z,y=some z→RD κ z u)
  (h:(zX (F7 c op t x y) κ.st).leads (d,zO)):xf c.P (do Pure.pure (.value (← (do eqGuard op t px py v u; binOp op t v u)))) κ d zO:=by
 unfold F7 at h
 split at h
 ·rename_i k a k' b hk CT
  have:=uu hk hx
  subst this
  have:=uu CT hy
  subst this
  split at h
  ·rw[ve]at h
   obtain⟨hb,rfl,rfl⟩:=h
   refine xf.pure hI ?_ RD.int
   simp only[Sem.run_bind,sH,Result.andThen_ok,binOp,Op.shift,if_neg (show ¬ b<0 by omega)]
   rfl
  ·rw[ve]at h
   obtain⟨hb,rfl,rfl⟩:=h
   refine xf.pure hI ?_ RD.int
   simp only[Sem.run_bind,sH,Result.andThen_ok,binOp,Op.shift,if_neg (show ¬ b<0 by omega)]
   rfl
  ·rename_i n1 n2
   cases he:decide (k=k')with
   | false=>rw[he]at h; exact absurd h zj
   | true =>
    have Tc:=of_decide_eq_true he
    subst Tc
    rw[he,cond_true]at h
    obtain⟨y',v',rfl,rfl,h1,h2⟩:=Fe (c:=c) (κ:=κ) (t:=t) h (by cases op<;>first | rfl | (exact absurd rfl n1) | (exact absurd rfl n2))
    exact xf.pure hI (by simp only[Sem.run_bind,sH,Result.andThen_ok,h1]) h2
 ·split at h
  ·rename_i a b ha hb
   have:=rW ha hx
   subst this
   have:=rW hb hy
   subst this
   cases hs:J9 op with
   | true=>rw[hs]at h; exact absurd h zj
   | false =>
    rw[hs,cond_false]at h
    obtain⟨y',v',rfl,rfl,h1,h2⟩:=Ew (c:=c) (κ:=κ) (t:=t) h hs
    exact xf.pure hI (by simp only[Sem.run_bind,CJ,Result.andThen_ok,h1]) h2
  ·split at h
   ·rename_i a b hu ha hb
    have:=tD ha hx
    subst this
    have:=tD hb hy
    subst this
    cases op<;>simp only[z0F]at h<;>try (exact absurd h zj)
    all_goals
     rw[W5]at h; obtain⟨rfl,rfl⟩:=h
     refine xf.pure hI ?_ RD.bool
     simp only[Sem.run_bind,Bl,Result.andThen_ok,binOp,I2 hu,Sem.run_pure]
   ·exact absurd h zj
theorem z29{op:UnOp}{x:Option D}{v:Value}{d:Option D}{zO:St}(hI:Inv κ)(hx:∀ z,x=some z→RD κ z v)
  (h:(zX (S7 op x) κ.st).leads (d,zO)):xf c.P (do Pure.pure (.value (← Op.unary op v))) κ d zO:=by
 unfold S7 at h
 split at h
 ·split at h
  ·rename_i k n hk
   have:=uu hk hx
   subst this
   rw[yA]at h
   obtain⟨rfl,rfl⟩:=h
   exact xf.pure hI (by simp[Op.unary,Op.intArith]) RD.int
  ·exact absurd h zj
 ·split at h
  ·rename_i b hb
   have:=tD hb hx
   subst this
   rw[W5]at h
   obtain⟨rfl,rfl⟩:=h
   exact xf.pure hI (by simp[Op.unary]) RD.bool
  ·exact absurd h zj
 ·split at h
  ·rename_i k n hk
   have:=uu hk hx
   subst this
   rw[yA]at h
   obtain⟨rfl,rfl⟩:=h
   exact xf.pure hI (by simp[Op.unary,Op.intBits,nU]) RD.int
  ·exact absurd h zj
 ·exact absurd h zj
theorem z1H{t ty:Nat}{ts:Array Nat}{x:Option D}{v:Value}{vs:Array Value}{d:Option D}{zO:St}(hI:Inv κ)(hx:∀ z,x=some z→RD κ z v)(ht:ts[0]? = some t)(hv:vs[0]? = some v)
  (h:(zX (S6 c t x) κ.st).leads (d,zO)):xf c.P (do Pure.pure (.value (← Builtin.len_ ts ty vs))) κ d zO:=by
 unfold S6 at h
 split at h
 ·rename_i e hu
  have key:∀ (n:Nat) (a:Option Addr) (cap:Nat),v=.slice a n cap→d=some (.zU (.int .i64) (n:Int))→zO=κ.st→xf c.P (do Pure.pure (.value (← Builtin.len_ ts ty vs))) κ d zO:=by
   rintro n a cap rfl rfl rfl
   exact xf.pure hI (by simp[Builtin.len_,ht,hv,run_underlying hu,goInt]) RD.int
  split at h
  ·rename_i e' l
   rw[yA]at h
   rcases((hx _ rfl).wO rfl).og with⟨rfl,a0,he⟩ | ⟨blk,off,cap,f,he,_⟩
   ·cases he; exact key 0 a0 0 rfl h.1 h.2
   ·cases he; exact key _ _ _ rfl h.1 h.2
  ·rename_i e' l ne
   rw[yA]at h
   cases hx _ rfl with
   | xJ _ a0=>exact key 0 a0 0 rfl h.1 h.2
   | tight=>exact key _ _ _ rfl h.1 h.2
  ·rw[yA]at h
   cases hx _ rfl
   exact key 0 none 0 rfl h.1 h.2
  ·rw[yA]at h
   cases hx _ rfl
   exact key _ _ _ rfl h.1 h.2
  ·exact absurd h zj
 ·rename_i hu
  split at h
  ·rename_i s hs
   have:=rW hs hx
   subst this
   rw[yA]at h
   obtain⟨rfl,rfl⟩:=h
   have jm:(⟨s.toArray⟩:ByteArray).size=s.length:=rfl
   exact xf.pure hI (by simp only[Builtin.len_,ht,hv,Sem.run_bind,run_underlying hu,Result.andThen_ok,goInt,jm,Sem.run_pure]) RD.int
  ·exact absurd h zj
 ·exact absurd h zj
theorem I5{f:Int→Int→Int}{g:Value→Value→Sem Value}{P:Program}(hg:∀ k k' a b,(g (.int k a) (.int k' b)).run P κ.w=.ok (.int k (f a b)) κ.w){x y:Option D}{v u:Value}{d:Option D}{zO:St}
  (hI:Inv κ) (hx:∀ z,x=some z→RD κ z v) (hy:∀ z,y=some z→RD κ z u) (h:(zX (JL f [x,y]) κ.st).leads (d,zO)) :
  ∃ r,(g v u).run P κ.w=.ok r κ.w∧zO=κ.st∧∀ d',d=some d'→RD κ d' r:=by
 unfold JL at h
 simp only at h
 split at h
 ·rename_i k a k' b hk CT
  have:=uu hk hx
  subst this
  have:=uu CT hy
  subst this
  cases he:decide (k=k')with
  | false=>rw[he]at h; exact absurd h zj
  | true =>
   rw[he,cond_true,yA]at h
   obtain⟨rfl,rfl⟩:=h
   exact⟨_,hg k k' a b,rfl,fun d' he=>by cases he; exact RD.int⟩
 ·exact absurd h zj
theorem Ba{x:Option D}{i:Nat}{v:Value}{d:Option D}{zO:St}(hI:Inv κ)(hx:∀ z,x=some z→RD κ z v)
  (h:(zX (WE x i) κ.st).leads (d,zO)):xf c.P (do Pure.pure (.value (← Instr.extract v i))) κ d zO:=by
 unfold WE at h
 split at h
 ·rename_i vs
  obtain⟨y,hy,rfl,rfl⟩:=K6 h
  cases hx _ rfl with
  | gK _ us hl hh =>
   obtain⟨u,h1,h2⟩:=xz.get (⟨hl,hh⟩:xz κ vs us) hy
   exact xf.pure hI (by simp[Instr.extract,h1]) h2
 ·exact absurd h zj
theorem bw:∀ {l:List (Option D)} {ds:List D},jJ l=some ds→l=ds.map some
 | [],ds,h=>by simp[jJ]at h; subst h; rfl
 | some d::r,ds,h=>by
  simp only[jJ]at h
  split at h
  ·rename_i l hl; cases h; simp[bw hl]
  ·cases h
 | none::r,ds,h=>by simp[jJ]at h
theorem dT{l:List (Option D)}{ds:List D}{vs:List Value}(h:jJ l=some ds)(hl:l.length=vs.length)
  (hr:∀ (i:Nat) (d:D) (v:Value),l[i]? = some (some d)→vs[i]? = some v→RD κ d v):xz κ ds vs:=by
 have:=bw h
 subst this
 refine⟨by simpa using hl,fun i h1 h2=>hr i _ _ ?_ (List.getElem?_eq_getElem h2)⟩
 simp[List.getElem?_eq_getElem h1]
end
end Go.AM
namespace Go.AM
namespace T
variable {α β γ:Type}
theorem cB{t:T α}{x y:α}(h:t.leads x)(k:t.leads y):x=y:=by
 induction t with
 | ret a=>exact h.symm.trans k
 | ite b p q ip iq =>
  rcases h with⟨h1,h⟩ | ⟨h1,h⟩<;>rcases k with⟨k1,k⟩ | ⟨k1,k⟩
  ·exact ip h k
  ·rw[h1]at k1; cases k1
  ·rw[h1]at k1; cases k1
  ·exact iq h k
 | zd p t ih=>exact ih h.2 k.2
 | fail=>exact h.elim
theorem zg{t:T α}{f:α→T β}{x:β}:(t.bind f).leads x↔∃ a,t.leads a∧(f a).leads x:=by
 induction t with
 | ret a=>exact⟨fun h=>⟨a,rfl,h⟩,fun⟨b,h,k⟩=>by cases h; exact k⟩
 | ite b p q ip iq =>
  constructor
  ·rintro(⟨h1,h⟩ | ⟨h1,h⟩)
   ·obtain⟨a,k1,k2⟩:=ip.1 h; exact⟨a,.inl ⟨h1,k1⟩,k2⟩
   ·obtain⟨a,k1,k2⟩:=iq.1 h; exact⟨a,.inr ⟨h1,k1⟩,k2⟩
  ·rintro⟨a,⟨h1,k1⟩ | ⟨h1,k1⟩,k2⟩
   ·exact .inl ⟨h1,ip.2 ⟨a,k1,k2⟩⟩
   ·exact .inr ⟨h1,iq.2 ⟨a,k1,k2⟩⟩
 | zd p t ih =>
  constructor
  ·rintro⟨h1,h⟩; obtain⟨a,k1,k2⟩:=ih.1 h; exact⟨a,⟨h1,k1⟩,k2⟩
  ·rintro⟨a,⟨h1,k1⟩,k2⟩; exact⟨h1,ih.2 ⟨a,k1,k2⟩⟩
 | fail=>exact⟨fun h=>h.elim,fun⟨_,h,_⟩=>h.elim⟩
open Classical in
noncomputable def run:T α→Option α
 | ret a=>some a
 | ite b t e=>bif b then t.run else e.run
 | zd p t=>if p then t.run else none
 | fail=>none
@[simp] theorem z7(a:α):(ret a).run=some a:=rfl
@[simp] theorem zcL:(fail:T α).run=none:=rfl
theorem run_ite(b:Bool)(t e:T α):(ite b t e).run=if b=true then t.run else e.run:=by cases b<;>rfl
@[simp] theorem zD(t e:T α):(ite true t e).run=t.run:=rfl
@[simp] theorem zr(t e:T α):(ite false t e).run=e.run:=rfl
theorem zc{p:Prop}(h:p)(t:T α):(zd p t).run=t.run:=by simp only[run,if_pos h]
theorem za{b:Bool}(h:b=true)(t e:T α):(ite b t e).run=t.run:=by rw[h]; rfl
theorem z8{b:Bool}(h:b=false)(t e:T α):(ite b t e).run=e.run:=by rw[h]; rfl
theorem ud{t:T α}{x:α}:t.run=some x↔t.leads x:=by
 induction t with
 | ret a=>simp[run,leads]
 | ite b p q ip iq=>cases b<;>simp[run,leads,ip,iq]
 | zd p t ih=>by_cases h:p<;>simp[run,leads,h,ih]
 | fail=>simp[run,leads]
theorem run_bind(t:T α)(f:α→T β):(t.bind f).run=t.run.bind fun a=>(f a).run:=by
 induction t with
 | ret a=>rfl
 | ite b p q ip iq=>cases b<;>simp[run,bind,ip,iq]
 | zd p t ih=>by_cases h:p<;>simp[run,bind,h,ih]
 | fail=>rfl
theorem z6{t:T α}{a:α}(h:t.run=some a)(f:α→T β):(t.bind f).run=(f a).run:=by rw[run_bind,h]; rfl
section loop
variable {σ ρ:Type} (r:σ→T (σ⊕ρ))
inductive Iter:Nat→σ→ρ→Prop
 | done {s:σ} {x:ρ} (h:(r s).leads (.inr x)):Iter 0 s x
 | step {n:Nat} {s s':σ} {x:ρ} (h:(r s).leads (.inl s')) (k:Iter n s' x):Iter (n+1) s x
theorem Iter.det{r:σ→T (σ⊕ρ)}{n m:Nat}{s:σ}{x y:ρ}(h:Iter r n s x)(k:Iter r m s y):x=y:=by
 induction h generalizing m y with
 | done h =>
  cases k with
  | done k=>have:=cB h k; cases this; rfl
  | step k _=>have:=cB h k; cases this
 | step h _ ih =>
  cases k with
  | done k=>have:=cB h k; cases this
  | step k k2=>have:=cB h k; cases this; exact ih k2
open Classical in
noncomputable def loop (s:σ):T ρ:=if h:∃ x n,Iter r n s x then .ret h.choose else .fail
theorem fT{s:σ}{x:ρ}:(loop r s).leads x↔∃ n,Iter r n s x:=by
 unfold loop
 split
 ·rename_i h
  obtain⟨n,hn⟩:=h.choose_spec
  constructor
  ·intro hx; cases hx; exact⟨n,hn⟩
  ·rintro⟨m,hm⟩; exact hn.det hm
 ·rename_i h
  exact⟨fun k=>k.elim,fun⟨n,hn⟩=>h ⟨x,n,hn⟩⟩
theorem uo{r:σ→T (σ⊕ρ)}(I:σ→Prop)(μ:σ→Nat)(f:σ→ρ)
  (h:∀ s,I s→(∃ s',(r s).run=some (.inl s')∧I s'∧μ s'<μ s∧f s'=f s)∨(r s).run=some (.inr (f s))) {s:σ} (hs:I s):(loop r s).run=some (f s):=by
 rw[ud,fT]
 generalize hm:μ s=m
 induction m using Nat.strongRecOn generalizing s with
 | _ m ih =>
  rcases h s hs with⟨s',h1,h2,h3,h4⟩ | h1
  ·obtain⟨n,hn⟩:=ih (μ s') (by omega) h2 rfl
   exact⟨n+1,.step (ud.1 h1) (h4▸hn)⟩
  ·exact⟨0,.done (ud.1 h1)⟩
theorem qK{r:σ→T (σ⊕ρ)}{s s':σ}(h:(r s).run=some (.inl s')):(loop r s).run=(loop r s').run:=by
 have h':=ud.1 h
 apply Option.ext
 intro x
 show(loop r s).run=some x↔(loop r s').run=some x
 rw[ud,ud,fT,fT]
 constructor
 ·rintro⟨n,hn⟩
  cases hn with
  | done k=>have:=cB h' k; cases this
  | step k k2=>have:=cB h' k; cases this; exact⟨_,k2⟩
 ·rintro⟨n,hn⟩; exact⟨n+1,.step h' hn⟩
theorem ql{r:σ→T (σ⊕ρ)}{s:σ}{x:ρ}(h:(r s).run=some (.inr x)):(loop r s).run=some x:=by
 rw[ud,fT]; exact⟨0,.done (ud.1 h)⟩
end loop
section fix
variable {σ ρ:Type} (b:(σ→T ρ)→σ→T ρ)
def OH:Nat→σ→T ρ
 | 0,_=>.fail
 | n+1,x=>b (OH n) x
open Classical in
noncomputable def fix (x:σ):T ρ:=if h:∃ y n,∀ m,n≤m→(OH b m x).leads y then .ret h.choose else .fail
theorem WH{x:σ}{y:ρ}:(fix b x).leads y↔∃ n,∀ m,n≤m→(OH b m x).leads y:=by
 unfold fix
 split
 ·rename_i h
  obtain⟨n,hn⟩:=h.choose_spec
  constructor
  ·intro hx; cases hx; exact⟨n,hn⟩
  ·rintro⟨k,hk⟩; exact cB (hn (max n k) (by omega)) (hk (max n k) (by omega))
 ·rename_i h
  exact⟨fun k=>k.elim,fun⟨n,hn⟩=>h ⟨y,n,hn⟩⟩
theorem jG{b:(σ→T ρ)→σ→T ρ}(I:σ→Prop)(μ:σ→Nat)(f:σ→ρ)
  (h:∀ x,I x→∀ g:σ→T ρ,(∀ y,I y→μ y<μ x→(g y).run=some (f y))→(b g x).run=some (f x)) {x:σ} (hx:I x):(fix b x).run=some (f x):=by
 rw[ud,WH]
 refine⟨μ x+1,fun m hm => ?_⟩
 induction m generalizing x with
 | zero=>omega
 | succ m ih =>
  rw[← ud]
  refine h x hx (OH b m) fun y hy qu => ?_
  rw[ud]
  exact ih hy (by omega)
end fix
def iN:T α→Option Prop
 | ret _=>none
 | ite b t e=>match t.iN,e.iN with
  | none,none=>none
  | some p,none=>some (b=true→p)
  | none,some q=>some (b=false→q)
  | some p,some q=>some ((b=true→p)∧(b=false→q))
 | zd p t=>match t.iN with
  | none=>some p
  | some q=>some (p∧q)
 | fail=>some False
def val(d:α):T α→α
 | ret a=>a
 | ite b t e=>bif b then t.val d else e.val d
 | zd _ t=>t.val d
 | fail=>d
def flat(d:α)(t:T α):T α:=match t.iN with
 | none=>.ret (t.val d)
 | some p=>.zd p (.ret (t.val d))
def Uz(t:T α):Prop:=match t.iN with | none=>True | some p=>p
theorem Ki(d:α)(t:T α)(x:α):t.leads x↔t.Uz∧t.val d=x:=by
 induction t with
 | ret a=>simp[leads,Uz,iN,val]
 | ite b p q ip iq =>
  cases b
  ·simp only[leads,Bool.false_eq_true,false_and,true_and,false_or,val,cond_false,iq]
   unfold Uz
   simp only[iN]
   cases p.iN<;>cases q.iN<;>simp
  ·simp only[leads,true_and,Bool.true_eq_false,false_and,or_false,val,cond_true,ip]
   unfold Uz
   simp only[iN]
   cases p.iN<;>cases q.iN<;>simp
 | zd p t ih =>
  simp only[leads,ih,val]
  unfold Uz
  simp only[iN]
  cases t.iN<;>simp[and_assoc]
 | fail=>simp[leads,Uz,iN]
end T
abbrev zu(x:Int):Int:=IntKind.wrap .i64 x
abbrev zx(x:Int):Int:=IntKind.wrap .u64 x
abbrev qG(x:Int):Int:=IntKind.wrap .u32 x
abbrev MR(x:Int):Int:=IntKind.wrap .u8 x
def zh(qY off len n:Nat):Prop:=qY=n∧off=0∧len=n
def zi(i:Int)(n:Nat):Prop:=0≤i∧i<(n:Int)
def lh(qY kT idx n:Nat):Prop:=qY=kT∧idx<n
def xF(qY kT off len n m bytes:Nat):Prop:=qY=kT∧off=0∧len=n∧(n+m)*bytes≤140737488355328
def nj(l h:Int)(n:Nat):Prop:=0≤l∧l≤h∧h≤(n:Int)
def kC(l:zf):Nat→zf
 | 0=>[]
 | c+1=>l++kC l c
def Jd(u:Nat):zf:=if h:u<10 then[UInt8.ofNat (48+u)]else Jd (u / 10)++[UInt8.ofNat (48+u % 10)]
termination_by u
decreasing_by omega
def pO(n:Int):zf:=if n<0 then 45::Jd n.natAbs else Jd n.toNat
def Tt:zf→zf→Int
 | [],sub=>if sub.isEmpty then 0 else -1
 | b::l,sub=>if sub.isPrefixOf (b::l)then 0 else if Tt l sub == -1 then -1 else Tt l sub+1
def Tg(s sep:zf):zf×zf×Bool:=if 0≤Tt s sep then(s.take (Tt s sep).toNat,s.drop ((Tt s sep).toNat+sep.length),true)else(s,[],false)
def z2e(s p:zf):zf:=if List.isPrefixOf p s=true then s.drop p.length else s
def z5g(v v' o l n:Nat):Prop:=v=v'∧o+l≤n
def Wh(n m:Int)(bytes:Nat):Prop:=0≤n∧n≤m∧m*bytes≤140737488355328∧m≤140737488355328
def nth{α:Type}(l:List α)(i:Int)(d:α):α:=List.getD l i.toNat d
def xp{α:Type}(l:List α)(i:Nat)(d:α):α:=List.getD l i d
def wG(s:zf)(i:Int):Int:=((List.getD s i.toNat 0).toNat:Int)
def FP(k:IntKind)(x y:Int):Int:=nU k (· &&& ·) x y
def gT(k:IntKind)(x y:Int):Int:=nU k (· ||| ·) x y
def Ep(k:IntKind)(x y:Int):Int:=nU k (· ^^^ ·) x y
theorem oU{v v' i n:Nat}:lh v v' i n↔v=v'∧i<n:=Iff.rfl
theorem z0B{l h:Int}{n:Nat}:nj l h n↔0≤l∧l≤h∧h≤(n:Int):=Iff.rfl
def z1R(l:List Int):T (zf×Unit):=.zd ((∀ n∈l,(0:Int)≤n∧n<256)∧List.length l≤140737488355328) (.ret (qV l,()))
end Go.AM
namespace Go.AM
namespace T
variable {α β:Type}
attribute [simp] run_bind
@[simp] theorem yw(b:Bool)(t e:T α):(ite b t e).run=if b=true then t.run else e.run:=run_ite b t e
@[simp] theorem qJ{i:Int}{n:Nat}(t:T α)(h1:0≤i)(h2:i<(n:Int)):(zd (zi i n) t).run=t.run:=zc ⟨h1,h2⟩ t
@[simp] theorem jM{v v' i n:Nat}(t:T α)(h1:v=v')(h2:i<n):(zd (lh v v' i n) t).run=t.run:=zc ⟨h1,h2⟩ t
@[simp] theorem xi{v v' o l n m b:Nat}(t:T α)(h1:v=v')(h2:o=0)(h3:l=n)(h4:(n+m)*b≤140737488355328):(zd (xF v v' o l n m b) t).run=t.run:=zc ⟨h1,h2,h3,h4⟩ t
@[simp] theorem ze{v o l n:Nat}(t:T α)(h1:v=n)(h2:o=0)(h3:l=n):(zd (zh v o l n) t).run=t.run:=zc ⟨h1,h2,h3⟩ t
@[simp] theorem oh{l h:Int}{n:Nat}(t:T α)(h1:0≤l)(h2:l≤h)(h3:h≤(n:Int)):(zd (nj l h n) t).run=t.run:=zc ⟨h1,h2,h3⟩ t
@[simp] theorem run_mk{n m:Int}{b:Nat}(t:T α)(h1:0≤n)(h2:n≤m)(h3:m*b≤140737488355328)(h4:m≤140737488355328):(zd (Wh n m b) t).run=t.run:=zc ⟨h1,h2,h3,h4⟩ t
@[simp] theorem z2h{v v' o l n:Nat}(t:T α)(h1:v=v')(h2:o+l≤n):(zd (z5g v v' o l n) t).run=t.run:=zc ⟨h1,h2⟩ t
@[simp] theorem zy{a b:Nat}(t:T α)(h:a=b):(zd (a=b) t).run=t.run:=zc h t
@[simp] theorem zG{a b:Nat}(t:T α)(h:a≤b):(zd (a≤b) t).run=t.run:=zc h t
@[simp] theorem jb{a b:Int}(t:T α)(h:a≤b):(zd (a≤b) t).run=t.run:=zc h t
@[simp] theorem vr{a b:Int}(t:T α)(h:a≠b):(zd (a≠b) t).run=t.run:=zc h t
@[simp] theorem zP(t:T α):(zd True t).run=t.run:=zc trivial t
end T
@[simp] theorem zQ{x:Int}(h1 : -9223372036854775808≤x)(h2:x≤9223372036854775807):zu x=x:=IntWalk.i64_in x ⟨h1,h2⟩
@[simp] theorem z0i{x:Int}(h1:0≤x)(h2:x≤255):MR x=x:=IntWalk.u8_in x ⟨h1,h2⟩
@[simp] theorem Wr{x:Int}(h1:0≤x)(h2:x≤4294967295):qG x=x:=IntWalk.u32_in x ⟨h1,h2⟩
@[simp] theorem qA{x:Int}(h1:0≤x)(h2:x≤18446744073709551615):zx x=x:=IntWalk.u64_in x ⟨h1,h2⟩
theorem iH(x:Int):qG x=x % 4294967296:=IntKind.wrap_u32 x
theorem XH(x:Int):zx x=x % 18446744073709551616:=IntKind.wrap_u64 x
theorem CY{α:Type}(l:List α)(d:α){i:Int}(h0:0≤i)(hi:i<(l.length:Int)):l.drop i.toNat=nth l i d::l.drop (i+1).toNat:=by
 unfold nth
 have qu:i.toNat<l.length:=by omega
 have e:(i+1).toNat=i.toNat+1:=by omega
 rw[e,List.drop_eq_getElem_cons qu]
 simp[List.getD_eq_getElem?_getD,qu]
theorem PU{α:Type}(l:List α){i:Int}(hi:¬ i<(l.length:Int)):l.drop i.toNat=[]:=List.drop_eq_nil_of_le (by omega)
namespace T
variable {σ ρ α β:Type}
theorem ny{r:σ→T (σ⊕ρ)}(l:List α)(d:α)(e:β→Int→σ)(I:β→List α→Prop)(f:List α→β→ρ)
  (step:∀ (b:β) (x:α) (xs:List α) (i:Int),0≤i→i<(l.length:Int)→nth l i d=x→I b (x::xs) →
   (∃ b',(r (e b i)).run=some (.inl (e b' (i+1)))∧I b' xs∧f xs b'=f (x::xs) b)∨(r (e b i)).run=some (.inr (f (x::xs) b)))
  (done:∀ b,I b []→(r (e b (l.length:Int))).run=some (.inr (f [] b))) {b:β} (hI:I b l):(loop r (e b 0)).run=some (f l b):=by
 have key:∀ (xs:List α) (i:Nat) (b:β),l.drop i=xs→i≤l.length→I b xs→(loop r (e b (i:Int))).run=some (f xs b):=by
  intro xs
  induction xs with
  | nil =>
   intro i b hd hi hb
   have:i=l.length:=by have:=List.drop_eq_nil_iff.1 hd; omega
   subst this
   exact ql (done b hb)
  | cons x xs ih =>
   intro i b hd hi hb
   have qu:i<l.length:=by
    rcases Nat.lt_or_ge i l.length with h | h
    ·exact h
    ·rw[List.drop_eq_nil_of_le h]at hd; cases hd
   have yZ:=CY l d (i:=(i:Int)) (by omega) (by omega)
   have e1:((i:Int)+1).toNat=i+1:=by omega
   simp only[Int.toNat_natCast,e1]at yZ
   rw[hd]at yZ
   obtain⟨h1,h2⟩:=List.cons.inj yZ
   rcases step b x xs i (by omega) (by omega) (by rw[h1]) hb with⟨b',g1,g2,g3⟩ | g1
   ·rw[qK g1,← g3]
    have:=ih (i+1) b' h2.symm (by omega) g2
    simpa using this
   ·exact ql g1
 exact key l 0 b (by simp) (Nat.zero_le _) hI
end T
end Go.AM