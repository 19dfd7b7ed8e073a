/-
  The abstract machine, part A: texts of our own, the same for each claim.
-/
import Derived.WalkKit
set_option linter.unusedVariables false
namespace Go.AM
theorem bW{a b c d:Prop}(h:a∨b)(f:a→c)(g:b→d):c∨d:=h.elim (fun x=>.inl (f x)) (fun x=>.inr (g x))
abbrev zf:=List UInt8
inductive Ty where
 | int (k:IntKind) | bool | str | sl (e:Ty) | nil | cons (a b:Ty) | expr
 deriving DecidableEq
inductive Expr where
 | mk (kind:Int) (num:Bool×List Int×List Int×Unit) (name:zf) (kids:List Expr)
def Expr.kind:Expr→Int | .mk k _ _ _=>k
def Expr.num:Expr→Bool×List Int×List Int×Unit | .mk _ n _ _=>n
def Expr.name:Expr→zf | .mk _ _ n _=>n
def Expr.kids:Expr→List Expr | .mk _ _ _ l=>l
@[reducible] def den:Ty→Type
 | .int _=>Int
 | .bool=>Bool
 | .str=>zf
 | .sl e=>List (den e)
 | .nil=>Unit
 | .cons a b=>den a×den b
 | .expr=>Expr
abbrev u32:Ty:=.int .u32
abbrev i64:Ty:=.int .i64
abbrev YI:Ty:=.cons .bool (.cons (.sl u32) (.cons (.sl u32) .nil))
abbrev Xe:Ty:=.cons i64 (.cons YI (.cons .str (.cons (.sl .expr) .nil)))
def Expr.O0(e:Expr):den Xe:=(e.kind,e.num,e.name,e.kids,())
def Expr.Fs(x:den Xe):Expr:=.mk x.1 x.2.1 x.2.2.1 x.2.2.2.1
def Ty.size:Ty→Nat
 | .int _ | .bool | .str | .sl _=>1
 | .nil=>0
 | .cons a b=>a.size+b.size
 | .expr=>6
def Ty.isAgg:Ty→Bool
 | .nil | .cons _ _ | .expr=>true
 | _=>false
def zb:(τ:Ty)→den τ
 | .int _=>(0:Int)
 | .bool=>false
 | .str=>([]:zf)
 | .sl e=>([]:List (den e))
 | .nil=>()
 | .cons a b=>(zb a,zb b)
 | .expr=>.mk 0 (false,[],[],()) [] []
inductive D where
 | zW (τ:Ty) (x:den τ)
 | tight (e:Ty) (l:List (den e)) (ne:Bool)
 | xm | yA | xX | vO | vP
 | ptr (b off:Nat)
 | xo (τ:Ty) (x:den τ)
 | uo (b qR:Nat) (e:Ty) (idx off:Nat)
 | ms (b qR:Nat) (e:Ty) (off len:Nat)
 | xk (f:Nat) (cap:List D)
 | agg (cs:List D)
 | gB (vs:List D)
 | iface (t:Nat) (d:D)
 | Zh
 | yf (b T:Nat)
 | dL (T:Nat)
inductive yd where
 | dead
 | var (d:D)
 | arr (qR:Nat) (e:Ty) (xs:List (den e))
abbrev St:=List yd
inductive T(α:Type) where
 | ret (a:α)
 | ite (b:Bool) (t e:T α)
 | zd (p:Prop) (t:T α)
 | fail
namespace T
variable {α β:Type}
def bind:T α→(α→T β)→T β
 | ret a,k=>k a
 | ite b t e,k=>ite b (t.bind k) (e.bind k)
 | zd p t,k=>zd p (t.bind k)
 | fail,_=>fail
def V4:Option α→T α
 | some a=>ret a
 | none=>fail
def leads:T α→α→Prop
 | ret a,x=>a=x
 | ite b t e,x=>(b=true∧t.leads x)∨(b=false∧e.leads x)
 | zd p t,x=>p∧t.leads x
 | fail,_=>False
def wp(Q:α→Prop):T α→Prop
 | ret a=>Q a
 | ite b t e=>(b=true→t.wp Q)∧(b=false→e.wp Q)
 | zd p t=>p∧t.wp Q
 | fail=>False
end T
abbrev Fr:=List (Nat×Option D)
def Fr.get:Fr→Nat→Option D
 | [],_=>none
 | (t,d)::r,s=>bif Nat.beq t s then d else Fr.get r s
def Fr.put(fr:Fr)(dst:Option Nat)(d:Option D):Fr :=
 match dst with
 | some t=>(t,d)::fr
 | none=>fr
abbrev Kn:=List (Nat×Option Bool)
def Kn.get:Kn→Nat→Option Bool
 | [],_=>none
 | (t,b)::r,s=>bif Nat.beq t s then b else Kn.get r s
inductive GV where
 | ret (ds:List D)
 | bU (d:D)
inductive W8 where
 | rp (τ:Ty) | im (τ:Ty)
inductive Qa where
 | ty (τ:Ty) | rp (τ:Ty) | xk (f:Nat) (caps:List W8)
structure Sig where
 params:List Qa
 res:List Ty
structure Ctx where
 P:Program
 xid:Nat
 sig:Nat→List D→Option Sig
 fn:Nat→List D→St→T (GV×St)
 ro:Nat→Bool
 /-- Blocks that a call leaves as they are. -/
 free:Nat→List D→St→List Nat
 RO:∀ (g:Nat) (args:List D) (st:St) (rs:GV) (zL:St) (b:Nat),(fn g args st).leads (rs,zL)→b∈free g args st→zL[b]? = st[b]?
inductive Ex where
 | normal | exit (id:Nat) | ret | bU (d:D)
class tN where
 u8:Nat
def z5p[tN](e:Ty)(t:Nat):Bool:=match e with
 | .int .u8=>Nat.beq t tN.u8
 | _=>true
def z4h[tN](e:Ty)(t:Nat):Prop:=e=.int .u8→t=tN.u8
section ops
variable (c:Ctx)
variable [tN]
def lL(t:Nat):Option Nat:=(c.P.info? t).map (·.size)
def oS(t:Nat):Option Nat:=(c.P.info? t).map (·.bytes)
def Bq(t:Nat):Option Bool:=match c.P.underlying t with | some (.struct _) | some (.array _ _)=>some true | some _=>some false | none=>none
def dU:List (Option Ty)→Option Ty
 | []=>some .nil
 | some a::r=>match dU r with | some b=>some (.cons a b) | none=>none
 | none::_=>none
def H6:Nat→Nat→Option Ty
 | 0,_=>none
 | n+1,t=>bif Nat.beq t c.xid then some .expr else
  match c.P.underlying t with
  | some (.int k)=>some (.int k)
  | some .bool=>some .bool
  | some .string=>some .str
  | some (.slice e)=>match H6 n e with | some a=>some (.sl a) | none=>none
  | some (.struct fs)=>dU (fs.toList.map fun f=>H6 n f.type)
  | some (.array k e)=>dU (List.replicate k (H6 n e))
  | _=>none
def kP(t:Nat)(τ:Ty):Bool:=z5p τ t&&(match lL c t with | some n=>Nat.beq n τ.size | none=>false)&&(match Bq c t with | some b=>b==τ.isAgg | none=>false)
def pP:Value→Option D
 | .int k n=>some (.zW (.int k) n)
 | .bool b=>some (.zW .bool b)
 | .string s=>some (.zW .str s.data.toList)
 | .slice none 0 0=>some .xm
 | .pointer none=>some .yA
 | .nilFunc=>some .vO
 | .nilIface=>some .xX
 | .map none=>some .vP
 | _=>none
def jC:List (Option D)→Option (List D)
 | []=>some []
 | some d::r=>match jC r with | some l=>some (d::l) | none=>none
 | none::_=>none
def V5:Value→Option D
 | .agg cs=>match jC (cs.toList.map pP)with | some l=>some (.agg l) | none=>none
 | v=>pP v
def flat:(τ:Ty)→den τ→List D
 | .int k,x=>[.zW (.int k) x]
 | .bool,x=>[.zW .bool x]
 | .str,x=>[.zW .str x]
 | .sl e,x=>[.zW (.sl e) x]
 | .nil,_=>[]
 | .cons a b,x=>flat a x.1++flat b x.2
 | .expr,x=>[.zW i64 x.kind,.zW .bool x.num.1,.zW (.sl u32) x.num.2.1,.zW (.sl u32) x.num.2.2.1,.zW .str x.name,.zW (.sl .expr) x.kids]
def qq:D→List D
 | .zW τ x=>flat τ x
 | .agg cs=>cs
 | .gB _=>[]
 | d=>[d]
def D.isAgg:D→Bool
 | .agg _=>true
 | _=>false
def D.dY:D→Bool
 | .zW τ _=>τ.isAgg
 | .agg _=>true
 | _=>false
def D.zal:D→Bool
 | .zW τ _=>τ.isAgg
 | .agg _=>true
 | _=>false
def gX:List D→Option Nat
 | .dL T::_=>some T
 | .yf _ T::_=>some T
 | _=>none
def D.typed:D→Option Nat
 | .agg l=>gX l
 | _=>none
def o9(d d':D):Bool:=match d'.typed with
 | none=>true
 | some T=>match d.typed with | some T'=>Nat.beq T T' | none=>false
def D.uy:D→Bool
 | .gB _=>true
 | _=>false
def vQ{a b:Ty}(x:den a):Option (den b):=if h:a=b then some (h▸x)else none
def BO:Ty→Option (Ty×Nat)
 | .cons e r=>match r with
  | .nil=>some (e,1)
  | r=>match BO r with
   | some (e',n)=>bif decide (e=e')then some (e,n+1)else none
   | none=>none
 | _=>none
def BE(e:Ty):(τ:Ty)→den τ→Nat→den e
 | .cons _ _,x,0=>match(vQ x.1:Option (den e))with | some y=>y | none=>zb e
 | .cons _ b,x,i+1=>BE e b x.2 i
 | _,_,_=>zb e
def ic(τ:Ty):D→Option (den τ)
 | .zW σ x=>vQ x
 | .tight e l _=>vQ (a:=.sl e) l
 | .xm=>match τ with | .sl e=>some ([]:List (den e)) | _=>none
 | _=>none
def jx:(τ:Ty)→List D→Option (den τ×List D)
 | .int k,d::r=>match ic (.int k) d with | some x=>some (x,r) | none=>none
 | .bool,d::r=>match ic .bool d with | some x=>some (x,r) | none=>none
 | .str,d::r=>match ic .str d with | some x=>some (x,r) | none=>none
 | .sl e,d::r=>match ic (.sl e) d with | some x=>some (x,r) | none=>none
 | .nil,r=>some ((),r)
 | .cons a b,r=>match jx a r with
  | some (x,r')=>match jx b r' with | some (y,r'')=>some ((x,y),r'') | none=>none
  | none=>none
 | .expr,[]=>none
 | .expr,d::r=>match ic i64 d with
  | none=>none
  | some k=>match r with
   | d1::d2::d3::d4::d5::r' =>
    match ic .bool d1,ic (.sl u32) d2,ic (.sl u32) d3,ic .str d4,ic (.sl .expr) d5 with
    | some a,some n,some m,some s,some l=>some (Expr.mk k (a,n,m,()) s l,r')
    | _,_,_,_,_=>none
   | _=>none
 | _,[]=>none
def dM(τ:Ty)(d:D):Option (den τ) :=
 match d with
 | .zW σ x=>vQ x
 | d=>bif (d.isAgg==τ.isAgg) && !d.uy then match jx τ (qq d)with
   | some (x,[])=>some x
   | _=>none
  else none
def p0(st:St):D→T D
 | .ms b qR e off len=>match st[b]? with
  | some (.arr jQ e' xs)=>if h:e'=e then .zd (qR=jQ) (.ret (.zW (.sl e) (h▸((xs.take (off+len)).drop off:List (den e')))))else .fail
  | _=>.fail
 | d=>.ret d
def Yy(st:St):List D→T (List D)
 | []=>.ret []
 | d::r=>(p0 st d).bind fun x=>(Yy st r).bind fun l=>.ret (x::l)
def snap(st:St):D→T D
 | .agg cs=>(Yy st cs).bind fun l=>.ret (.agg l)
 | d=>p0 st d
def Qs(st:St)(τ:Ty)(d:D):T (den τ):=(snap st d).bind fun x=>.V4 (dM τ x)
def KJ:D→Bool | .ms .. => true | _=>false
inductive cD where
 | val (t:T (Option D))
 | rd (k:St→T (Option D))
 | wr (k:St→T (Option D×St))
def val(d:D):cD:=.val (.ret (some d))
def z2w(d:Option D):cD:=match d with | some d=>.val (.ret (some d)) | none=>.val .fail
def bad:cD:=.val .fail
def z3W(t:Nat):Bool:=match c.P.underlying t with
 | some (.struct fs)=>match fs[0]? with
  | some fd=>match c.P.underlying fd.type with | some (.pointer e)=>Nat.beq e t | _=>false
  | none=>false
 | _=>false
def PF(t:Nat)(d:D):D:=match d with
 | .agg (.yA::r)=>bif z3W c t then .agg (.dL t::r)else .agg (.yA::r)
 | d=>d
def VA(t:Nat):Option D:=match c.P.info? t with
 | some i=>match i.zero with | some z=>(match V5 z with | some d=>some (PF c t d) | none=>none) | none=>none
 | none=>none
def G3(l:List D)(off n:Nat):Option (List D) :=
 bif Nat.ble (off+n) l.length then some ((l.drop off).take n)else none
def DW(t:Nat)(d:D)(off:Nat):Option D :=
 match Bq c t with
 | some true=>match lL c t with
  | none=>none
  | some n=>bif (Nat.beq off 0)&&Nat.beq n (qq d).length&&d.zal then some d
   else match G3 (qq d) off n with | some l=>some (.agg l) | none=>none
 | some false=>(qq d)[off]?
 | none=>none
def D9(t:Nat)(d:D)(off:Nat)(x:D):Option D :=
 match lL c t with
 | none=>none
 | some n=>bif Nat.blt 0 n&&Nat.beq n (qq x).length&&Nat.ble (off+n) (qq d).length then
   bif Nat.beq n (qq d).length then some x
   else some (.agg ((qq d).take off++qq x++(qq d).drop (off+n)))
  else none
def K8(t:Nat)(a:Option D):cD:=match a with
 | some (.xo τ x)=>bif kP c t τ then val (.zW τ x)else bad
 | some (.ptr b off)=>.rd fun st=>match st[b]? with
  | some (.var d)=>match DW c t d off with | some r=>.ret (some r) | none=>.fail
  | _=>.fail
 | some (.uo b qR e idx off)=>.rd fun st=>match st[b]? with
  | some (.arr jQ e' xs)=>bif decide (e'=e)then
    .zd (qR=jQ∧idx<xs.length) (match DW c t (.zW e' (xs.getD idx (zb e'))) off with | some r=>.ret (some r) | none=>.fail)
   else .fail
  | _=>.fail
 | _=>bad
def Ua(t:Nat)(a:Option D)(v:Option D):cD:=match a,v with
 | some (.ptr b off),some x=>.wr fun st=>match st[b]? with
  | some (.var d)=>match D9 c t d off x with | some r=>bif o9 d r then .ret (none,st.set b (.var r))else .fail | none=>.fail
  | _=>.fail
 | some (.uo b qR e idx off),some x=>.wr fun st=>match st[b]? with
  | some (.arr jQ e' xs)=>bif decide (e'=e)then
    .zd (qR=jQ∧idx<xs.length) (match D9 c t (.zW e' (xs.getD idx (zb e'))) off x with
     | some r=>match dM e' r with | some y=>.ret (none,st.set b (.arr jQ e' (xs.set idx y))) | none=>.fail
     | none=>.fail)
   else .fail
  | _=>.fail
 | _,_=>bad
def ru:(τ:Ty)→den τ→Nat→Option (D×Nat×Nat)
 | .cons a _,x,0=>some (.xo a x.1,0,a.size)
 | .cons a b,x,n+1=>match ru b x.2 n with | some (d,o,s)=>some (d,a.size+o,s) | none=>none
 | .expr,x,0=>some (.xo i64 x.kind,0,1)
 | .expr,x,1=>some (.xo YI x.num,1,3)
 | .expr,x,2=>some (.xo .str x.name,4,1)
 | .expr,x,3=>some (.xo (.sl .expr) x.kids,5,1)
 | _,_,_=>none
def VY(s f:Nat):Option (Nat×Nat):=match c.P.underlying s with
 | some (.struct fs)=>match fs[f]? with
  | some fd=>match lL c fd.type with | some n=>bif Nat.beq n 0 then none else some (fd.offset,n) | none=>none
  | none=>none
 | _=>none
def sr(s f:Nat)(a:Option D):cD:=match VY c s f with
 | none=>bad
 | some (o,n)=>match a with
  | some (.xo τ x)=>match ru τ x f with
   | some (d,o',n')=>bif Nat.beq o o'&&Nat.beq n n' then val d else bad
   | none=>bad
  | some (.ptr b off)=>val (.ptr b (off+o))
  | some (.uo b qR e idx off)=>val (.uo b qR e idx (off+o))
  | _=>bad
def HZ(s f:Nat)(a:Option D):cD:=match c.P.underlying s with
 | some (.struct fs)=>match fs[f]? with
  | some fd=>match a with
   | some d=>z2w (bif d.dY then DW c fd.type d fd.offset else none)
   | none=>bad
  | none=>bad
 | _=>bad
def asInt:Option D→Option (IntKind×Int)
 | some (.zW (.int k) n)=>some (k,n)
 | _=>none
def K3:Option D→Option zf
 | some (.zW .str s)=>some s
 | _=>none
def asBool:Option D→Option Bool
 | some (.zW .bool b)=>some b
 | _=>none
def iW(t:Nat):Option Nat:=match c.P.underlying t with | some (.slice e)=>some e | _=>none
def z6V(t:Nat):Option (Nat×Nat):=match c.P.underlying t with | some (.array n e)=>some (n,e) | _=>none
def J1(t:Nat)(x:Option D)(i:Int):cD:=match z6V c t,x with
 | some (n,et),some (.xo τ y)=>match BO τ with
  | some (e,m)=>bif kP c et e&&Nat.beq n m then .val (.zd (0≤i∧i<(n:Int)) (.ret (some (.xo e (BE e τ y i.toNat)))))else bad
  | none=>bad
 | _,_=>bad
def pU(t:Nat)(x i:Option D):cD:=match iW c t,asInt i with
 | none,some (_,i)=>J1 c t x i
 | some et,some (_,i)=>match x with
  | some (.zW (.sl e) l)=>bif kP c et e then .val (.zd (0≤i∧i<(List.length l:Int)) (.ret (some (.xo e (List.getD l i.toNat (zb e))))))else bad
  | some (.tight e l _)=>bif kP c et e then .val (.zd (0≤i∧i<(List.length l:Int)) (.ret (some (.xo e (List.getD l i.toNat (zb e))))))else bad
  | some (.ms b qR e off len)=>bif kP c et e then .val (.zd (0≤i∧i<(len:Int)) (.ret (some (.uo b qR e (off+i.toNat) 0))))else bad
  | _=>bad
 | _,_=>bad
def Ha(t:Nat)(x i:Option D):cD:=match asInt i,K3 x,c.P.underlying t with
 | some (_,i),some s,some .string=>.val (.zd (0≤i∧i<(List.length s:Int)) (.ret (some (.zW (.int .u8) ((List.getD s i.toNat 0).toNat:Int)))))
 | _,_,_=>bad
def O3(d:Int):Option (Option D)→Option Int
 | none=>some d
 | some x=>match asInt x with | some (_,i)=>some i | none=>none
def gU(l h:Int)(s:zf):zf:=(s.take h.toNat).drop l.toNat
def uq{e:Ty}(l h:Int)(s:List (den e)):List (den e):=(s.take h.toNat).drop l.toNat
def GK(t:Nat)(x:Option D)(lo hi mx:Option (Option D)):cD:=match x with
 | some (.zW .str s)=>match c.P.underlying t,mx,O3 0 lo,O3 (List.length s) hi with
  | some .string,none,some l,some h=>.val (.zd (0≤l∧l≤h∧h≤(List.length s:Int)) (.ret (some (.zW .str (gU l h s)))))
  | _,_,_,_=>bad
 | some (.zW (.sl e) s)=>match iW c t,O3 0 lo,O3 (List.length s) hi with
  | some et,some l,some h=>bif kP c et e then match mx with
    | none=>.val (.zd (0≤l∧l≤h∧h≤(List.length s:Int)) (.ret (some (.zW (.sl e) (uq l h s)))))
    | some m=>match asInt m with
     | some (_,m)=>bif hi.isSome then .val (.zd (0≤l∧l≤h∧h=m∧h≤(List.length s:Int)) (.ret (some (.tight e (uq l h s) false))))else bad
     | none=>bad
   else bad
  | _,_,_=>bad
 | some (.tight e s _)=>match iW c t,mx,O3 0 lo,O3 (List.length s) hi with
  | some et,none,some l,some h=>bif kP c et e then .val (.zd (0≤l∧l≤h∧h≤(List.length s:Int)) (.ret (some (.zW (.sl e) (uq l h s)))))else bad
  | _,_,_,_=>bad
 | some (.ms b qR e off len)=>match iW c t,mx,O3 0 lo,O3 len hi with
  | some et,none,some l,some h=>bif kP c et e then .val (.zd (0≤l∧l≤h∧h≤(len:Int)) (.ret (some (.ms b qR e (off+l.toNat) (h.toNat-l.toNat)))))else bad
  | _,_,_,_=>bad
 | _=>bad
def ib(k:IntKind)(n:Int):cD:=val (.zW (.int k) n)
def bb(b:Bool):cD:=val (.zW .bool b)
def mh(k:IntKind)(f:BitVec k.bits→BitVec k.bits→BitVec k.bits)(x y:Int):Int:=k.wrap (f (BitVec.ofInt k.bits x) (BitVec.ofInt k.bits y)).toNat
def xU(k:IntKind)(a b:Int):Int:=k.wrap (a*2 ^ (min b.toNat k.bits))
def qV(k:IntKind)(a b:Int):Int:=Int.fdiv a (2 ^ (min b.toNat k.bits))
def Fb(op:BinOp)(k:IntKind)(a b:Int):cD:=match op with
 | .add=>ib k (k.wrap (a+b))
 | .sub=>ib k (k.wrap (a-b))
 | .mul=>ib k (k.wrap (a*b))
 | .quo=>.val (.zd (b≠0) (.ret (some (.zW (.int k) (k.wrap (a.tdiv b))))))
 | .rem=>.val (.zd (b≠0) (.ret (some (.zW (.int k) (a.tmod b)))))
 | .and=>ib k (mh k (· &&& ·) a b)
 | .or=>ib k (mh k (· ||| ·) a b)
 | .xor=>ib k (mh k (· ^^^ ·) a b)
 | .eql=>bb (a==b)
 | .neq=>bb (a != b)
 | .lss=>bb (decide (a<b))
 | .leq=>bb (decide (a≤b))
 | .gtr=>bb (decide (b<a))
 | .geq=>bb (decide (b≤a))
 | _=>bad
def zF(a b:zf):Bool:=a==b
def strLt(a b:zf):Bool:=Op.bytesLess a b
def cat(a b:zf):zf:=a++b
def Fz(op:BinOp)(a b:zf):cD:=match op with
 | .add=>.val (.zd (a.length+b.length≤4611686018427387904) (.ret (some (.zW .str (cat a b)))))
 | .eql=>bb (zF a b)
 | .neq=>bb (!zF a b)
 | .lss=>bb (strLt a b)
 | .leq=>bb (strLt a b||zF a b)
 | .gtr=>bb (!(strLt a b||zF a b))
 | .geq=>bb (!strLt a b)
 | _=>bad
def PM(op:BinOp)(a b:Bool):cD:=match op with
 | .eql=>bb (a==b)
 | .neq=>bb (!(a==b))
 | _=>bad
def U1:BinOp→Bool
 | .shl | .shr=>true
 | _=>false
def F4(op:BinOp)(t:Nat)(x y:Option D):cD:=match asInt x,asInt y with
 | some (k,a),some (k',b)=>match op with
  | .shl=>.val (.zd (0≤b) (.ret (some (.zW (.int k) (xU k a b)))))
  | .shr=>.val (.zd (0≤b) (.ret (some (.zW (.int k) (qV k a b)))))
  | op=>bif decide (k=k')then Fb op k a b else bad
 | _,_=>match K3 x,K3 y with
  | some a,some b=>bif U1 op then bad else Fz op a b
  | _,_=>match c.P.underlying t,asBool x,asBool y with
   | some .bool,some a,some b=>PM op a b
   | _,_,_=>bad
def HI(op:BinOp)(t:Nat)(x:Option D):cD:=match c.P.underlying t with
 | some (.interface _)=>match op,x with
  | .eql,some .xX=>bb true
  | .eql,some (.iface _ _)=>bb false
  | .neq,some .xX=>bb false
  | .neq,some (.iface _ _)=>bb true
  | _,_=>bad
 | _=>bad
def oH(x:Option D)(at':Nat)(ok:Bool):cD:=match c.P.underlying at' with
 | some (.interface _)=>bad
 | none=>bad
 | some _=>match x with
  | some (.iface t d)=>bif Nat.beq t at'&&ok then val (.gB [d,.zW .bool true])else bad
  | _=>bad
def DT(op:BinOp)(t:Nat)(p:Operand)(x y:Option D):cD:=match p with
 | .const .nilIface=>HI c op t x
 | _=>F4 c op t x y
def z01(op:UnOp)(x:Option D):cD:=match op with
 | .neg=>match asInt x with | some (k,n)=>ib k (k.wrap (0-n)) | none=>bad
 | .not=>match asBool x with | some b=>bb (!b) | none=>bad
 | .xor=>match asInt x with | some (k,n)=>ib k (mh k (· ^^^ ·) (if k.signed then -1 else k.max) n) | none=>bad
 | _=>bad
def byteOf(n:Int):UInt8:=UInt8.ofNat n.toNat
def D5(e:Ty):D→Option (List (den e))
 | .zW σ y=>vQ (a:=σ) (b:=.sl e) y
 | .tight e' y _=>vQ (a:=.sl e') (b:=.sl e) y
 | .xm=>some []
 | _=>none
def qO(l:List Int):zf:=l.map byteOf
def Wi(e:Nat)(x:Option D):cD:=match c.P.underlying e,x with
 | some (.int .u8),some d=>.rd fun st=>(p0 st d).bind fun y=>match D5 (.int .u8) y with
  | some l=>.ret (some (.zW .str (qO l)))
  | none=>.fail
 | _,_=>bad
def convertOp(s t:Nat)(x:Option D):cD:=match c.P.underlying s,c.P.underlying t with
 | some (.slice e),some .string=>Wi c e x
 | some (.int _),some (.int k)=>match asInt x with | some (_,n)=>ib k (k.wrap n) | none=>bad
 | some .string,some .string=>match K3 x with | some s=>val (.zW .str s) | none=>bad
 | _,_=>bad
def R7(t:Nat)(x:Option D):cD:=match c.P.underlying t with
 | some (.slice _)=>match x with
  | some (.zW (.sl _) l)=>ib .i64 (List.length l)
  | some (.tight _ l _)=>ib .i64 (List.length l)
  | some .xm=>ib .i64 0
  | some (.ms _ _ _ _ len)=>ib .i64 (len:Nat)
  | _=>bad
 | some .string=>match K3 x with
  | some s=>ib .i64 (List.length s)
  | none=>bad
 | _=>bad
def ex(e:Ty){e':Ty}(xs:List (den e')):Option (List (den e)):=vQ (a:=.sl e') (b:=.sl e) xs
def mP(e:Ty)(l ys:List (den e))(bytes:Nat)(st:St):T (Option D×St) :=
 .zd ((l.length+ys.length)*bytes≤140737488355328) (.ret (some (.ms st.length (l.length+ys.length) e 0 (l.length+ys.length)),st++[.arr (l.length+ys.length) e (l++ys)]))
def kf(e:Ty)(s:D)(ys:List (den e))(ne:Bool)(bytes:Nat)(st:St):T (Option D×St):=match s with
 | .xm=>bif ne then mP e [] ys bytes st else .ite ys.isEmpty (.ret (some s,st)) (mP e [] ys bytes st)
 | .tight e' l _=>match ex e l with
  | some l=>bif ne then mP e l ys bytes st else .ite ys.isEmpty (.ret (some s,st)) (mP e l ys bytes st)
  | none=>.fail
 | .ms b qR e' off len=>match st[b]? with
  | some (.arr jQ e'' xs)=>match ex e xs with
   | some xs=>bif decide (e'=e)then .zd (qR=jQ∧off=0∧len=xs.length∧(xs.length+ys.length)*bytes≤140737488355328)
     (.ret (some (.ms b (qR+ys.length) e 0 (len+ys.length)),st.set b (.arr (qR+ys.length) e (xs++ys))))else .fail
   | none=>.fail
  | _=>.fail
 | _=>.fail
def zeroOf(et:Nat)(e:Ty):Option (den e):=match VA c et with | some z=>dM e z | none=>none
def Qr(t:Nat)(s x:Option D):cD:=match iW c t with
 | none=>bad
 | some et=>match H6 c 20 et,oS c et with
  | some e,some bytes=>bif kP c et e&&Nat.blt 0 e.size&&Nat.blt 0 bytes&&(zeroOf c et e).isSome then match s,x with
    | some s,some x=>.wr fun st=>(p0 st x).bind fun x=>match x with
     | .zW _ y=>match(vQ y:Option (den (.sl e)))with
      | some ys=>kf e s ys false bytes st
      | none=>.fail
     | .tight _ y ne=>match ex e y with
      | some ys=>kf e s ys ne bytes st
      | none=>.fail
     | .xm=>kf e s [] false bytes st
     | _=>.fail
    | _,_=>bad
   else bad
  | _,_=>bad
def bytesOf(s:zf):List Int:=s.map fun b=>((b.toNat:Nat):Int)
def sR(t t':Nat)(s x:Option D):cD:=match iW c t with
 | none=>bad
 | some et=>match H6 c 20 et,oS c et,c.P.underlying t' with
  | some (.int .u8),some bytes,some .string=>bif kP c et (.int .u8)&&Nat.blt 0 bytes&&(zeroOf c et (.int .u8)).isSome then match s,x with
    | some s,some (.zW .str l)=>.wr fun st=>kf (.int .u8) s (bytesOf l) false bytes st
    | _,_=>bad
   else bad
  | _,_,_=>bad
def Fm(t:Nat)(n m:Option D):cD:=match iW c t,asInt n,asInt m with
 | some et,some (_,n),some (_,m)=>match H6 c 20 et,oS c et with
  | some e,some bytes=>match zeroOf c et e with
   | some z=>bif kP c et e&&Nat.blt 0 e.size then
     .wr fun st=>.zd (0≤n∧n≤m∧m*bytes≤140737488355328∧m≤140737488355328) (.ret (some (.ms st.length n.toNat e 0 n.toNat),st++[.arr n.toNat e (List.replicate n.toNat z)]))
    else bad
   | none=>bad
  | _,_=>bad
 | _,_,_=>bad
def Gt(e:Ty):Nat→List (Nat×Option D)→Option (List (den e))
 | _,[]=>some []
 | i,(j,some d)::r=>bif Nat.beq i j then match dM e d,Gt e (i+1) r with
   | some x,some l=>some (x::l)
   | _,_=>none
  else none
 | _,_=>none
def nU(t n:Nat)(ps:List (Nat×Option D)):cD:=match iW c t with
 | none=>bad
 | some et=>match H6 c 20 et with
  | some e=>bif kP c et e&&Nat.beq n ps.length&&Nat.ble n 1000&&Nat.ble e.size 100&&(zeroOf c et e).isSome then match Gt e 0 ps with
    | some l=>bif Nat.beq n 0&&Nat.blt 0 e.size then .wr fun st=>.ret (some (.ms st.length 0 e 0 0),st++[.arr 0 e []])else val (.tight e l (!Nat.beq n 0))
    | none=>bad
   else bad
  | none=>bad
def iu(places:List (Nat×Nat)):List (Nat×Option D)→List D→Option (List D)
 | [],cells=>some cells
 | (i,some d)::r,cells=>match places[i]? with
  | some (off,n)=>bif !d.uy&&Nat.beq n (qq d).length&&Nat.ble (off+n) cells.length then
     iu places r (cells.take off++qq d++cells.drop (off+n))else none
  | none=>none
 | _,_=>none
def Hm(t:Nat)(ps:List (Nat×Option D)):cD:=match c.P.underlying t with
 | some (.struct fs)=>match VA c t,fs.toList.mapM (fun f=>(c.P.info? f.type).map fun i=>(f.offset,i.size))with
  | some (.agg z),some places=>match iu places ps z with
   | some l=>val (.agg l)
   | none=>bad
  | _,_=>bad
 | some (.array k e)=>match VA c t,c.P.info? e with
  | some (.agg z),some ie=>match iu ((List.range k).map fun i=>(i*ie.size,ie.size)) ps z with
   | some l=>val (.agg l)
   | none=>bad
  | _,_=>bad
 | _=>bad
def Wm(x:Option D)(i:Nat):cD:=match x with
 | some (.gB vs)=>z2w vs[i]?
 | _=>bad
def yW:List D→D
 | [d]=>d
 | ds=>.gB ds
def Ty.scalar:Ty→Bool
 | .int _ | .bool | .str=>true
 | .cons a b=>a.scalar&&b.scalar
 | .nil=>true
 | _=>false
def sS:D→Bool
 | .zW τ _=>τ.scalar
 | _=>false
def pA(st:St)(τ:Ty):D→T D
 | .xo _ x=>match(vQ x:Option (den τ))with | some y=>.ret (.xo τ y) | none=>.fail
 | .ptr b off=>match st[b]? with
  | some (.var d)=>match bif Nat.beq off 0 then dM τ d else none with | some y=>.ret (.xo τ y) | none=>.fail
  | _=>.fail
 | _=>.fail
def rN(st:St):W8→D→T D
 | .im τ,d=>(Qs st τ d).bind fun x=>.ret (.zW τ x)
 | .rp τ,d=>pA st τ d
def cL(st:St):List W8→List D→T (List D)
 | [],[]=>.ret []
 | p::r,d::ds=>(rN st p d).bind fun x=>(cL st r ds).bind fun l=>.ret (x::l)
 | _,_=>.fail
def D4(st:St):Qa→D→T D
 | .ty τ,d=>(Qs st τ d).bind fun x=>.ret (.zW τ x)
 | .rp τ,d=>pA st τ d
 | .xk f caps,.xk f' l=>bif Nat.beq f f' then(cL st caps l).bind fun l=>.ret (.xk f l)else .fail
 | _,_=>.fail
def pj(st:St):List Qa→List D→T (List D)
 | [],[]=>.ret []
 | p::r,d::ds=>(D4 st p d).bind fun x=>(pj st r ds).bind fun l=>.ret (x::l)
 | _,_=>.fail
def z7c:D→Bool | .ptr .. => true | _=>false
def Kj:D→Bool
 | .agg cs=>cs.any KJ
 | .xk _ l=>l.any fun d=>KJ d||z7c d
 | .ptr .. => true
 | d=>KJ d
def SL(r:GV×St):T (Option D):=match r with
 | (.ret ds,[])=>.ret (some (yW ds))
 | _=>.fail
def tc(r:GV×St):T (Option D):=match r with
 | (.ret ds,[])=>bif ds.all sS then .ret (some (yW ds))else .fail
 | _=>.fail
def bM(g:Nat)(s:Sig)(args:List D):cD :=
 bif !(args.any Kj)then .val ((pj [] s.params args).bind fun l=>(c.fn g l []).bind SL)
 else .rd fun st=>(pj st s.params args).bind fun l=>(c.fn g l []).bind tc
def tE(g:Nat)(args:List D):cD:=.wr fun st=>(c.fn g args st).bind fun r=>match r.1 with
 | .ret ds=>.ret (some (yW ds),r.2)
 | .bU _=>.fail
def dQ(g:Nat):Nat:=bif Nat.ble 1000000 g then g % 1000000 else g
def c9{α:Type}(g:Nat)(l caps:List α):List α:=bif Nat.ble 1000000 g then caps++l else l++caps
def dR(f:Option D)(args:List (Option D)):cD:=match f,jC args with
 | some (.xk g caps),some l=>match c.sig (dQ g) (c9 g l caps)with
  | some s=>bM c (dQ g) s (c9 g l caps)
  | none=>tE c (dQ g) (c9 g l caps)
 | _,_=>bad
def wK(a b:Int):Int:=if b<a then b else a
def w7(a b:Int):Int:=if a<b then b else a
def Ku(f:Int→Int→Int)(args:List (Option D)):cD:=match args with
 | [x,y]=>match asInt x,asInt y with
  | some (k,a),some (k',b)=>bif decide (k=k')then ib k (f a b)else bad
  | _,_=>bad
 | _=>bad
def yc{α:Type}(off len:Nat)(xs l:List α):List α:=xs.take off++l.take len++xs.drop (off+min len l.length)
def Sd(k:IntKind)(b qR off len:Nat)(l:List Int)(st:St):T (Option D×St):=match st[b]? with
 | some (.arr jQ e' xs)=>match ex (.int k) xs with
  | some xs=>.zd (qR=jQ∧off+len≤List.length xs) (.ret (some (.zW i64 ((min len l.length:Nat):Int)),st.set b (.arr jQ (.int k) (yc off len xs l))))
  | none=>.fail
 | _=>.fail
def FW(t:Nat)(s x:Option D):cD:=match iW c t with
 | some et=>match c.P.underlying et,lL c et,s,x with
  | some (.int k),some 1,some (.ms b qR (.int k') off len),some d=>bif decide (k'=k)then .wr fun st=>(p0 st d).bind fun y=>match D5 (.int k) y with
    | some l=>Sd k b qR off len l st
    | none=>.fail
   else bad
  | _,_,_,_=>bad
 | none=>bad
def mv(b:Builtin)(ts:List Nat)(args:List (Option D)):cD:=match b,ts,args with
 | .len,t::_,x::_=>R7 c t x
 | .append,[t,t'],[s,x]=>bif Nat.beq t t' then Qr c t s x else sR c t t' s x
 | .copy,[t,_],[s,x]=>FW c t s x
 | .min,_,args=>Ku wK args
 | .max,_,args=>Ku w7 args
 | _,_,_=>bad
def yb(fr:Fr):Operand→Option D
 | .tmp t=>fr.get t
 | .const v=>V5 v
 | .global _=>none
 | .func f=>bif Nat.blt f 1000000 then some (.xk f [])else none
def ZU(x:Option D):cD:=match x with
 | some (.ptr b o)=>val (.ptr b o)
 | some (.xo τ x)=>val (.xo τ x)
 | some (.uo b v e i o)=>val (.uo b v e i o)
 | some (.xk f l)=>val (.xk f l)
 | _=>bad
def FJ(x a b:Option D):cD:=match asBool x with
 | some x=>.val (.ite x (.ret a) (.ret b))
 | none=>bad
def pY(t:Nat)(x:Option D):cD:=match c.P.underlying t with
 | some (.interface _) | none=>bad
 | some _=>match x with | some d=>val (.iface t d) | none=>bad
def Sj(x:Option D):cD:=match x with
 | some d=>bif d.uy||d.typed.isSome then bad else .wr fun st=>.ret (some (.ptr st.length 0),st++[.var d])
 | none=>bad
def RC(t:Nat)(x:Option D):cD:=match x with
 | some (.zW τ x)=>val (.xo τ x)
 | some d=>match H6 c 20 t with
  | some τ=>match dM τ d with | some x=>val (.xo τ x) | none=>bad
  | none=>bad
 | none=>bad
def z9P:Option Nat→Bool
 | some s=>c.ro s
 | none=>false
def OG(t:Nat)(dst:Option Nat)(x:Option D):cD:=bif z9P c dst then RC c t x else Sj x
def oy(t:Nat):cD:=match VA c t with
 | some d=>.wr fun st=>.ret (some (.ptr st.length 0),st++[.var d])
 | none=>bad
def qZ(ρ:Operand→Option D)(o:Oper):cD:=match o.op with
 | .move x | .assign x=>.val (.ret (ρ x))
 | .pick x a b=>FJ (ρ x) (ρ a) (ρ b)
 | .alloc t=>oy c t
 | .box t x=>OG c t o.dst (ρ x)
 | .load t a=>K8 c t (ρ a)
 | .store t a v=>Ua c t (ρ a) (ρ v)
 | .nilCheck x=>ZU (ρ x)
 | .binOp op t x y _=>DT c op t y (ρ x) (ρ y)
 | .typeAssert x _ t ok=>oH c (ρ x) t ok
 | .unOp op _ x=>z01 op (ρ x)
 | .convert s t x=>convertOp c s t (ρ x)
 | .makeInterface t x=>pY c t (ρ x)
 | .makeFunc (.func f) first cap=>bif Nat.beq first.size 0&&Nat.blt f 1000000 then match jC (cap.toList.map ρ)with | some l=>val (.xk f l) | none=>bad
   else bif Nat.beq cap.size 0&&Nat.blt f 1000000 then match jC (first.toList.map ρ)with | some l=>val (.xk (f+1000000) l) | none=>bad else bad
 | .makeSlice t l m=>Fm c t (ρ l) (ρ m)
 | .slice t x lo hi mx=>GK c t (ρ x) (lo.map ρ) (hi.map ρ) (mx.map ρ)
 | .fieldAddr s x f=>sr c s f (ρ x)
 | .field s x f=>HZ c s f (ρ x)
 | .indexAddr t x i=>pU c t (ρ x) (ρ i)
 | .index t x i=>Ha c t (ρ x) (ρ i)
 | .extract x i=>Wm (ρ x) i
 | .build t ps=>Hm c t (ps.toList.map fun p=>(p.1,ρ p.2))
 | .buildSlice t n ps=>nU c t n (ps.toList.map fun p=>(p.1,ρ p.2))
 | .call cl=>match cl.callee with
  | .builtin b=>mv c b cl.argTypes.toList (cl.args.toList.map ρ)
  | .value f=>dR c (ρ f) (cl.args.toList.map ρ)
  | .invoke _ _=>bad
 | _=>bad
def zU:cD→St→T (Option D×St)
 | .val t,st=>t.bind fun d=>.ret (d,st)
 | .rd k,st=>(k st).bind fun d=>.ret (d,st)
 | .wr k,st=>k st
end ops
end Go.AM
namespace Go.AM
def cD.kind:cD→Nat
 | .val _=>0
 | .rd _=>1
 | .wr _=>2
def uP(ops:Array Oper)(j:Nat):Option Nat:=match ops[j]? with | some o=>o.dst | none=>none
def Nk:D:=.gB []
def vM(n:Nat):Option Nat→Bool
 | some t=>Nat.blt t n
 | none=>true
section
variable (c:Ctx)
variable [tN]
def ez(kn:Kn):Operand→Option Bool
 | .tmp t=>kn.get t
 | .const (.bool b)=>some b
 | _=>none
def Ja(kn:Kn):Op→Option Bool
 | .move x | .assign x=>ez kn x
 | .pick x a b=>match ez kn x with
  | some true=>ez kn a
  | some false=>ez kn b
  | none=>none
 | _=>none
def pn(kn:Kn)(fr:Fr)(o:Oper):cD:=match o.op with
 | .pick x a b=>match ez kn x with
  | some true=>.val (.ret (yb fr a))
  | some false=>.val (.ret (yb fr b))
  | none=>qZ c (yb fr) o
 | _=>qZ c (yb fr) o
def Jx(kn:Kn)(dst:Option Nat)(b:Option Bool):Kn:=match dst with | some t=>(t,b)::kn | none=>kn
inductive RK where
 | z (k:Nat) | rd (b:Nat) | wr (free:List Nat) | up (b:Nat)
def RK.base:RK→Nat
 | .z k=>k
 | .rd _=>1
 | .wr _=>2
 | .up _=>2
def others(n:Nat)(l:List Nat):List Nat:=(List.range n).filter fun b => !(l.any (Nat.beq b))
def z7i(d:Option D):Option Nat:=match d with
 | some d=>match d with
  | .ptr b _=>some b
  | .uo b _ _ _ _=>some b
  | _=>none
 | none=>none
def LF(bi:Builtin)(l:List (Option D)):RK:=match bi with
 | .append=>match l with | [some (.ms b _ _ _ _),some x]=>bif KJ x then .z 2 else .up b | _=>.z 2
 | _=>.z 2
def wx(ρ:Operand→Option D)(st:St)(o:Oper):RK:=match(qZ c ρ o).kind with
 | 1=>match o.op with
  | .load _ a=>match z7i (ρ a)with | some b=>.rd b | none=>.z 1
  | _=>.z 1
 | 2=>match o.op with
  | .alloc _=>.wr (others st.length [])
  | .store _ a _=>match z7i (ρ a)with | some b=>.up b | none=>.z 2
  | .call cl=>match cl.callee with
   | .value f=>match ρ f,jC (cl.args.toList.map ρ)with | some (.xk g caps),some l=>.wr (c.free (dQ g) (c9 g l caps) st) | _,_=>.z 2
   | .builtin bi=>LF bi (cl.args.toList.map ρ)
   | _=>.z 2
  | _=>.z 2
 | k=>.z k
structure fg where
 fr:Fr
 kn:Kn
 st:St
 ks:List Nat      -- kinds of what has run,the last first
 bk:List RK
def gQ(n:Nat)(o:Oper)(s:fg):T fg :=
 bif vM n o.dst then
  let cl:=pn c s.kn s.fr o
  (zU cl s.st).bind fun r=>.ret ⟨s.fr.put o.dst r.1,Jx s.kn o.dst (Ja s.kn o.op),r.2,cl.kind::s.ks,wx c (yb s.fr) s.st o::s.bk⟩
 else .fail
def jv(o:Oper)(s:fg):fg:=⟨s.fr.put o.dst (some Nk),Jx s.kn o.dst none,s.st,0::s.ks,.z 0::s.bk⟩
def fg.bT(s:fg)(t:Nat)(b:Bool):fg:={ s with kn:=(t,some b)::s.kn }
def stepG(n:Nat)(ops:Array Oper)(o:Oper)(s:fg):T fg:=match o.guard with
 | none=>gQ c n o s
 | some (j,want)=>match uP ops j with
  | none=>.fail
  | some t=>match s.kn.get t with
   | some b=>bif b==want then gQ c n o s else bif vM n o.dst then .ret (jv o s)else .fail
   | none=>match s.fr.get t with
    | some (.zW .bool x)=>bif vM n o.dst then
      .ite x (bif want then gQ c n o (s.bT t true)else .ret (jv o (s.bT t true)))
          (bif want then .ret (jv o (s.bT t false))else gQ c n o (s.bT t false))
     else .fail
    | some (.gB [])=>bif vM n o.dst then .ret (jv o s)else .fail
    | _=>.fail
def nI(n:Nat)(ops:Array Oper):List Oper→fg→T fg
 | [],s=>.ret s
 | o::l,s=>(stepG c n ops o s).bind fun s'=>nI n ops l s'
def tmpsOf(ops:Array Oper)(o:Oper):List Nat :=
 (match o.dst with | some d=>[d] | none=>[]) ++
 (match o.guard with | some (j,_)=>(match uP ops j with | some s=>[s] | none=>[]) | none=>[]) ++
 o.op.operands.toList.filterMap fun | .tmp t=>some t | _=>none
def xA(l:List Oper):List Nat→List Nat
 | acc=>match l with
  | []=>acc
  | o::r=>xA r (acc++[o.after.toList.foldl (fun s e=>bif Region.binds .any e then s ||| 2 ^ e.on ||| acc.getD e.on 0 else s) 0])
def ordered(bs:List Nat)(i j:Nat):Bool:=Nat.testBit (bs.getD j 0) i
def ux(k l:Nat):Bool:=(Nat.beq k 2 && !Nat.beq l 0)||(Nat.beq l 2 && !Nat.beq k 0)
def Ep{K:Type}(cl:K→K→Bool)(bs:List Nat)(xs:List (Nat×Option Nat×List Nat×K))(j:Nat)(dj:Option Nat)(tj:List Nat)(kj:K):Bool :=
 xs.all fun x=>ordered bs x.1 j||(!(match x.2.1 with | some d=>tj.contains d | none=>false) && !(match dj with | some d=>x.2.2.1.contains d | none=>false) && !cl x.2.2.2 kj)
def oG{K:Type}(cl:K→K→Bool)(ops:Array Oper)(bs:List Nat):List Oper→List K→Nat→List (Nat×Option Nat×List Nat×K)→Bool
 | [],_,_,_=>true
 | o::l,k::ks,j,xs=>let tj:=tmpsOf ops o; Ep cl bs xs j o.dst tj k&&oG cl ops bs l ks (j+1) ((j,o.dst,tj,k)::xs)
 | _,_,_,_=>false
def hZ:List Oper→Nat→Bool
 | [],_=>true
 | o::l,j=>o.after.toList.all (fun e => !Region.binds .any e||Nat.blt e.on j)&&hZ l (j+1)
def Lj(ops:Array Oper)(ks:List Nat):Bool :=
 let l:=ops.toList
 hZ l 0&&oG ux ops (xA l []) l ks 0 []
def Wc(o:Oper):Bool:=(match o.op with | .alloc _=>true | _=>false)&&o.guard.isNone&&o.dst.isSome
def JQ:List Oper→List Nat→List Nat
 | o::l,k::ks=>(bif Wc o then 3 else k)::JQ l ks
 | _,_=>[]
def ss(k l:Nat):Bool:=bif Nat.beq k 3&&Nat.beq l 3 then false else ux (bif Nat.beq k 3 then 2 else k) (bif Nat.beq l 3 then 2 else l)
def JT:List Oper→Nat→List Nat
 | [],_=>[]
 | o::l,i=>bif Wc o then i::JT l (i+1)else JT l (i+1)
def D1(bs al:List Nat)(n:Nat):Bool:=(List.range n).all fun j => !(al.any fun p=>ordered bs p j)||al.all fun p=>ordered bs p j
def Ly(ops:Array Oper)(ks:List Nat):Bool :=
 let l:=ops.toList
 hZ l 0&&(ks.all fun k=>Nat.ble k 2)&&oG ss ops (xA l []) l (JQ l ks) 0 []&&D1 (xA l []) (JT l 0) l.length
def um:RK→RK→Bool
 | .rd b,.wr A => !(A.any (Nat.beq b))
 | .wr A,.rd b => !(A.any (Nat.beq b))
 | .rd b,.up a=>Nat.beq a b
 | .up a,.rd b=>Nat.beq a b
 | .up a,.up b=>Nat.beq a b
 | x,y=>ux x.base y.base
def IZ(ops:Array Oper)(ks:List RK):Bool :=
 let l:=ops.toList
 hZ l 0&&oG um ops (xA l []) l ks 0 []
def Q1(ops:Array Oper)(ks:List Nat)(bk:List RK):Bool:=Lj ops ks||Ly ops ks||IZ ops bk
def cm(n:Nat)(ops:Array Oper)(draw:Bool)(fr:Fr)(kn:Kn)(st:St):T fg :=
 (nI c n ops ops.toList ⟨fr,kn,st,[],[]⟩).bind fun s=>bif !draw||Q1 ops s.ks.reverse s.bk.reverse then .ret s else .fail
structure zdK where
 ex:Ex
 fr:Fr
 kn:Kn
 st:St
structure zeF where
 ex:Ex
 out:List (Nat×D)
 st:St
abbrev z8Y:=Nat→Fr→St→T zeF
def z6g(l:List (Nat×D)):Fr:=l.map fun p=>(p.1,some p.2)
def ev(n:Nat)(L:z8Y):Code→Fr→Kn→St→T zdK
 | .skip,fr,kn,st=>.ret ⟨.normal,fr,kn,st⟩
 | .region _ ops draw,fr,kn,st=>(cm c n ops draw fr kn st).bind fun s=>.ret ⟨.normal,s.fr,s.kn,s.st⟩
 | .seq a b,fr,kn,st=>(ev n L a fr kn st).bind fun r=>match r.ex with
  | .normal=>ev n L b r.fr r.kn r.st
  | _=>.ret r
 | .cond x a b,fr,kn,st=>match ez kn x with
  | some true=>ev n L a fr kn st
  | some false=>ev n L b fr kn st
  | none=>match x with
   | .tmp t=>match fr.get t with
    | some (.zW .bool v)=>.ite v (ev n L a fr ((t,some true)::kn) st) (ev n L b fr ((t,some false)::kn) st)
    | _=>.fail
   | _=>.fail
 | .block id (.loop _),fr,_,st=>(L id fr st).bind fun r=>match r.ex with
   | .exit id'=>bif Nat.beq id' id then .ret ⟨.normal,z6g r.out,[],r.st⟩else .ret ⟨.exit id',z6g r.out,[],r.st⟩
   | .normal=>.fail
   | x=>.ret ⟨x,z6g r.out,[],r.st⟩
 | .block id a,fr,kn,st=>(ev n L a fr kn st).bind fun r=>match r.ex with
  | .exit id'=>bif Nat.beq id' id then .ret { r with ex:=.normal } else .ret r
  | _=>.ret r
 | .exit id,fr,kn,st=>.ret ⟨.exit id,fr,kn,st⟩
 | .ret,fr,kn,st=>.ret ⟨.ret,fr,kn,st⟩
 | _,_,_,_=>.fail
def wG:List D→Nat→Fr
 | [],_=>[]
 | d::r,i=>(i,some d)::wG r (i+1)
def da(fr:Fr)(st:St):List ResultVar→T (List D)
 | []=>.ret []
 | .tmp t::r=>match fr.get t with
  | some d=>(da fr st r).bind fun l=>.ret (d::l)
  | none=>.fail
 | .cell a t::r=>match fr.get a with
  | some (.ptr b off)=>match st[b]? with
   | some (.var d)=>match DW c t d off with
    | some x=>(da fr st r).bind fun l=>.ret (x::l)
    | none=>.fail
   | _=>.fail
  | _=>.fail
def vJ(n:Nat):D→Bool
 | .ptr b _=>Nat.blt b n
 | .yf b _=>Nat.blt b n
 | .uo b .. => Nat.blt b n
 | .ms b .. => Nat.blt b n
 | .xk .. | .agg _ | .gB _ | .iface .. => false
 | _=>true
def bF(n:Nat):D→Bool
 | .xk _ l=>l.all (vJ n)
 | .agg l=>l.all (vJ n)
 | .iface _ d=>vJ n d
 | d=>vJ n d
def Hp(n:Nat):yd→Bool
 | .var d=>bF n d
 | _=>true
end
end Go.AM
namespace Go.AM
open Go.RowKit
inductive Rc(w:World)(ok:Nat→Prop):(τ:Ty)→den τ→List Value→Prop
 | int (k:IntKind) (n:Int):Rc w ok (.int k) n [.int k n]
 | bool (b:Bool):Rc w ok .bool b [.bool b]
 | str (s:zf):Rc w ok .str s [.string ⟨s.toArray⟩]
 | iE (e:Ty) (a:Option Addr):Rc w ok (.sl e) ([]:List (den e)) [.slice a 0 0]
 | sl (e:Ty) (l:List (den e)) (blk off cap:Nat) (f:Nat→List Value) (wg:ok blk) (wD:l.length≤cap)
   (h:∀ i (hi:i<l.length),Rc w ok e l[i] (f i))
   (hc:∀ i,i<l.length→∀ j v,(f i)[j]? = some v→w.cell? ⟨blk,off+i*e.size+j,none⟩=some v) :
   Rc w ok (.sl e) l [.slice (some ⟨blk,off,none⟩) l.length cap]
 | nil:Rc w ok .nil () []
 | cons (a b:Ty) (x:den a) (y:den b) (c1 c2:List Value) (h1:Rc w ok a x c1) (h2:Rc w ok b y c2):Rc w ok (.cons a b) (x,y) (c1++c2)
 | expr (k:Int) (n:den YI) (s:zf) (l:List Expr) (cs:List Value) (h:Rc w ok Xe (k,n,s,l,()) cs):Rc w ok .expr (.mk k n s l) cs
def Eb(w w':World)(ok Ve:Nat→Prop):Prop:=∀ k,ok k→Ve k∧w'.heap[k]? = w.heap[k]?
theorem cd{w w':World}{a:Addr}(h:w'.heap[a.block]? = w.heap[a.block]?):w'.cell? a=w.cell? a:=by simp[World.cell?,h]
section
variable {w w':World} {ok Ve:Nat→Prop}
theorem Rc.mono{τ:Ty}{x:den τ}{cs:List Value}(hs:Eb w w' ok Ve)(h:Rc w ok τ x cs):Rc w' Ve τ x cs:=by
 induction h with
 | int k n=>exact .int k n
 | bool b=>exact .bool b
 | str s=>exact .str s
 | iE e a=>exact .iE e a
 | sl e l blk off cap f wg wD h hc ih=>exact .sl e l blk off cap f (hs _ wg).1 wD ih fun i hi j v hv=>by rw[cd (hs _ wg).2]; exact hc i hi j v hv
 | nil=>exact .nil
 | cons a b x y c1 c2 h1 h2 i1 i2=>exact .cons a b x y c1 c2 i1 i2
 | expr k n s l cs h ih=>exact .expr k n s l cs ih
theorem Rc.len{τ:Ty}{x:den τ}{cs:List Value}(h:Rc w ok τ x cs):cs.length=τ.size:=by
 induction h with
 | cons a b x y c1 c2 h1 h2 i1 i2=>simp[Ty.size,i1,i2]
 | expr k n s l cs h ih=>simpa[Ty.size]using ih
 | _=>simp[Ty.size]
theorem Rc.one{τ:Ty}{x:den τ}{cs:List Value}(h:Rc w ok τ x cs):∀ v∈cs,v.oneCell'=true:=by
 induction h with
 | cons a b x y c1 c2 h1 h2 i1 i2=>intro v hv; rcases List.mem_append.1 hv with h | h; exact i1 v h; exact i2 v h
 | expr k n s l cs h ih=>exact ih
 | _=>intro v hv; simp at hv; try (subst hv; rfl)
theorem Rc.eV{k:IntKind}{n:Int}{cs:List Value}(h:Rc w ok (.int k) n cs):cs=[.int k n]:=by cases h; rfl
theorem Rc.gS{n:Bool}{cs:List Value}(h:Rc w ok .bool n cs):cs=[.bool n]:=by cases h; rfl
theorem Rc.lH{n:zf}{cs:List Value}(h:Rc w ok .str n cs):cs=[.string ⟨n.toArray⟩]:=by cases h; rfl
theorem Rc.cons_inv{a b:Ty}{x:den (.cons a b)}{cs:List Value}(h:Rc w ok (.cons a b) x cs):∃ c1 c2,cs=c1++c2∧Rc w ok a x.1 c1∧Rc w ok b x.2 c2:=by
 cases h with | cons _ _ x y c1 c2 h1 h2=>exact⟨c1,c2,rfl,h1,h2⟩
theorem Rc.qG{x:den .nil}{cs:List Value}(h:Rc w ok .nil x cs):cs=[]:=by cases h; rfl
theorem Rc.BV{x:Expr}{cs:List Value}(h:Rc w ok .expr x cs):Rc w ok Xe x.O0 cs:=by cases h with | expr k n s l cs h=>exact h
theorem Rc.ny{e:Ty}{l:List (den e)}{cs:List Value}(h:Rc w ok (.sl e) l cs):(l=[]∧∃ a,cs=[.slice a 0 0]) ∨
  ∃ (blk off cap:Nat) (f:Nat→List Value),cs=[.slice (some ⟨blk,off,none⟩) l.length cap]∧ok blk∧l.length≤cap∧(∀ i (hi:i<l.length),Rc w ok e l[i] (f i)) ∧
   (∀ i,i<l.length→∀ j v,(f i)[j]? = some v→w.cell? ⟨blk,off+i*e.size+j,none⟩=some v):=by
 cases h with
 | iE _ a=>exact .inl ⟨rfl,a,rfl⟩
 | sl _ _ blk off cap f wg wD h hc=>exact .inr ⟨blk,off,cap,f,rfl,wg,wD,h,hc⟩
end
def pk(τ:Ty)(cs:List Value):Value:=if τ.isAgg then .agg cs.toArray else cs.headD undef
structure KS where
 w:World
 ok:Nat→Prop
 ph:List (Option (Nat×Nat))
 st:St
def Mh(ph:List (Option (Nat×Nat)))(b zg4:Nat)(e:Ty)(off len:Nat)(v:Value):Prop :=
 off+len≤zg4∧((len=0∧off=0∧v=.slice none 0 0∧ph[b]? = some none) ∨
  ∃ (blk n o cap:Nat),ph[b]? = some (some (blk,n))∧v=.slice (some ⟨blk,o,none⟩) len cap∧len≤cap∧(off+cap)*e.size≤n∧(cap=0∨o=off*e.size))
def Old(st:St)(b qR:Nat):Prop:=st[b]? = some .dead∨∃ (v0:Nat) (e0:Ty) (oW:List (den e0)),st[b]? = some (.arr v0 e0 oW)∧qR≤v0
def D.one:D→Bool
 | .zW τ _ => !τ.isAgg
 | .agg _ | .gB _=>false
 | _=>true
def Xj(f:Nat)(vs:List Value):Value:=bif Nat.ble 1000000 f then .func (.func (f % 1000000)) vs.toArray #[]else .func (.func f) #[] vs.toArray
theorem Ln{f:Nat}(h:Nat.blt f 1000000=true)(vs:List Value):Xj f vs=.func (.func f) #[] vs.toArray:=by
 have:Nat.ble 1000000 f=false:=by
  cases hb:Nat.ble 1000000 f with
  | false=>rfl
  | true=>have h1:=Nat.le_of_ble_eq_true hb; have h2:=Nat.le_of_ble_eq_true h; omega
 unfold Xj; rw[this]; rfl
theorem DR{f:Nat}(h:Nat.blt f 1000000=true)(vs:List Value):Xj (f+1000000) vs=.func (.func f) vs.toArray #[]:=by
 have h1:Nat.ble 1000000 (f+1000000)=true:=Nat.ble_eq_true_of_le (by omega)
 have h2:=Nat.le_of_ble_eq_true h
 have h3:(f+1000000) % 1000000=f:=by omega
 unfold Xj; rw[h1,h3]; rfl
theorem JM(f:Nat)(vs:List Value):(Xj f vs).cells.toList=[Xj f vs]:=by
 unfold Xj; cases Nat.ble 1000000 f<;>rfl
theorem P8(f:Nat)(vs:List Value):(Xj f vs).oneCell'=true:=by
 unfold Xj; cases Nat.ble 1000000 f<;>rfl
theorem JN(f:Nat)(vs:List Value):∃ g a b,Xj f vs=.func (.func g) a b:=by
 unfold Xj; cases Nat.ble 1000000 f<;>exact⟨_,_,_,rfl⟩
inductive RD(κ:KS):D→Value→Prop
 | zW (τ:Ty) (x:den τ) (cs:List Value) (h:Rc κ.w κ.ok τ x cs):RD κ (.zW τ x) (pk τ cs)
 | xG (e:Ty) (a:Option Addr):RD κ (.tight e ([]:List (den e)) false) (.slice a 0 0)
 | tight (e:Ty) (l:List (den e)) (ne:Bool) (blk off:Nat) (f:Nat→List Value) (uj:ne=true→l≠[]) (wg:κ.ok blk)
   (h:∀ i (hi:i<l.length),Rc κ.w κ.ok e l[i] (f i))
   (hc:∀ i,i<l.length→∀ j v,(f i)[j]? = some v→κ.w.cell? ⟨blk,off+i*e.size+j,none⟩=some v) :
   RD κ (.tight e l ne) (.slice (some ⟨blk,off,none⟩) l.length l.length)
 | xm:RD κ .xm (.slice none 0 0)
 | yA:RD κ .yA (.pointer none)
 | xX:RD κ .xX .nilIface
 | vO:RD κ .vO .nilFunc
 | vP:RD κ .vP (.map none)
 | Zh (v:Value) (h:v.oneCell'=true):RD κ .Zh v
 | dL (T:Nat):RD κ (.dL T) (.pointer none)
 | dv (b T:Nat) (d:D) (hd:κ.st[b]? = some (.var d)):RD κ (.yf b T) (.pointer none)
 | cY (b T blk n:Nat) (d:D) (hd:κ.st[b]? = some (.var d)) (h:κ.ph[b]? = some (some (blk,n))):RD κ (.yf b T) (.pointer (some ⟨blk,0,none⟩))
 | ptr (b off blk n:Nat) (d:D) (hd:κ.st[b]? = some (.var d)) (h:κ.ph[b]? = some (some (blk,n))):RD κ (.ptr b off) (.pointer (some ⟨blk,off,none⟩))
 | xo (τ:Ty) (x:den τ) (cs:List Value) (blk off:Nat) (wg:κ.ok blk) (h:Rc κ.w κ.ok τ x cs)
   (hc:∀ j v,cs[j]? = some v→κ.w.cell? ⟨blk,off+j,none⟩=some v):RD κ (.xo τ x) (.pointer (some ⟨blk,off,none⟩))
 | uo (b qR:Nat) (e:Ty) (idx off blk o:Nat) (hb:Old κ.st b qR)
   (h:∀ xs:List (den e),κ.st[b]? = some (.arr qR e xs)→idx<xs.length→∃ n:Nat,κ.ph[b]? = some (some (blk,n))∧o=idx*e.size+off) :
   RD κ (.uo b qR e idx off) (.pointer (some ⟨blk,o,none⟩))
 | ms (b qR:Nat) (e:Ty) (off len cap:Nat) (a:Option Addr) (hb:Old κ.st b qR) (wD:len≤cap) (ha:a=none→cap=0) (tq:∀ p,a=some p→p.spot=none)
   (h:∀ xs:List (den e),κ.st[b]? = some (.arr qR e xs)→Mh κ.ph b xs.length e off len (.slice a len cap)):RD κ (.ms b qR e off len) (.slice a len cap)
 | xk (f:Nat) (l:List D) (vs:List Value) (hl:l.length=vs.length) (h:∀ i (h1:i<l.length) (h2:i<vs.length),RD κ l[i] vs[i]):RD κ (.xk f l) (Xj f vs)
 | agg (l:List D) (vs:List Value) (hl:l.length=vs.length) (ho:∀ d∈l,d.one=true) (h:∀ i (h1:i<l.length) (h2:i<vs.length),RD κ l[i] vs[i]):RD κ (.agg l) (.agg vs.toArray)
 | gB (l:List D) (vs:List Value) (hl:l.length=vs.length) (h:∀ i (h1:i<l.length) (h2:i<vs.length),RD κ l[i] vs[i]):RD κ (.gB l) (.tuple vs.toArray)
 | iface (t:Nat) (d:D) (v:Value) (h:RD κ d v):RD κ (.iface t d) (.iface t v)
def xv(κ:KS)(l:List D)(vs:List Value):Prop:=l.length=vs.length∧∀ i (h1:i<l.length) (h2:i<vs.length),RD κ l[i] vs[i]
def iH[tN](κ:KS)(b:Nat):yd→Prop
 | .dead=>True
 | .var d=>∃ (blk n:Nat) (cs:Array Value) (t:TypeId),κ.ph[b]? = some (some (blk,n))∧κ.w.heap[blk]? = some (.cells cs t (0,0))∧cs.size=n∧xv κ (qq d) cs.toList∧(∀ x∈qq d,x.one=true)∧∀ T,d.typed=some T→t=T
 | .arr _ e xs=>0<e.size∧((xs=[]∧κ.ph[b]? = some none) ∨
   ∃ (blk n:Nat) (cs:Array Value) (t:TypeId),κ.ph[b]? = some (some (blk,n))∧κ.w.heap[blk]? = some (.cells cs t (0,0))∧cs.size=n∧xs.length*e.size≤n∧z4h e t ∧
    ∃ f:Nat→List Value,∀ i (hi:i<xs.length),Rc κ.w κ.ok e xs[i] (f i)∧∀ j v,(f i)[j]? = some v→cs[i*e.size+j]? = some v)
class uz extends tN where
 tab:List (Nat×(Obj→Prop))
def ZV[uz](w:World)(ok:Nat→Prop):Prop:=∀ x∈uz.tab,ok x.1∧∃ o,w.heap[x.1]? = some o∧x.2 o
theorem ZV.mono[uz]{w w':World}{ok Ve:Nat→Prop}(h:ZV w ok)(hs:Eb w w' ok Ve):ZV w' Ve:=fun x hx=>by
 obtain⟨h1,o,h2,h3⟩:=h x hx
 obtain⟨g1,g2⟩:=hs _ h1
 exact⟨g1,o,by rw[g2]; exact h2,h3⟩
structure Inv[uz](κ:KS):Prop where
 len:κ.ph.length=κ.st.length
 y5:∀ k,κ.ok k→k<κ.w.heap.size
 apart:∀ (b blk n:Nat),κ.ph[b]? = some (some (blk,n))→blk<κ.w.heap.size∧¬ κ.ok blk
 inj:∀ (b b' blk n n':Nat),κ.ph[b]? = some (some (blk,n))→κ.ph[b']? = some (some (blk,n'))→b=b'
 blk:∀ (b:Nat) (x:yd),κ.st[b]? = some x→iH κ b x
 gl:ZV κ.w κ.ok
structure Ext(κ κ':KS):Prop where
 os:κ'.w.os=κ.w.os
 tape:κ'.w.tape=κ.w.tape
 output:κ'.w.output=κ.w.output
 size:κ.w.heap.size≤κ'.w.heap.size
 same:Eb κ.w κ'.w κ.ok κ'.ok
 fresh:∀ k,κ'.ok k→κ.ok k∨κ.w.heap.size≤k∨∃ b n:Nat,κ.ph[b]? = some (some (k,n))
 phs:∀ (b blk n:Nat),κ'.ph[b]? = some (some (blk,n))→κ.ph[b]? = some (some (blk,n))∨κ.w.heap.size≤blk
 var:∀ (b:Nat) (d:D),κ.st[b]? = some (.var d)→(∃ d',κ'.st[b]? = some (.var d'))∧κ'.ph[b]? = κ.ph[b]?
 arr:∀ (b v0:Nat) (e:Ty) (oW:List (den e)),κ.st[b]? = some (.arr v0 e oW)→κ'.st[b]? = some .dead ∨
  ∃ (v1:Nat) (zy:List (den e)),κ'.st[b]? = some (.arr v1 e zy)∧v0≤v1∧(v0=v1→κ'.ph[b]? = κ.ph[b]? ∧ oW.length=zy.length)
 dead:∀ (b:Nat),κ.st[b]? = some .dead→κ'.st[b]? = some .dead
 Dy:κ.st.length≤κ'.st.length
 frame:∀ k,k<κ.w.heap.size→(∀ (b n:Nat),κ.ph[b]? ≠ some (some (k,n)))→κ'.w.heap[k]? = κ.w.heap[k]?
theorem Ext.refl(κ:KS):Ext κ κ :=
 ⟨rfl,rfl,rfl,Nat.le_refl _,fun _ h=>⟨h,rfl⟩,fun _ h=>.inl h,fun _ _ _ h=>.inl h,fun _ d h=>⟨⟨d,h⟩,rfl⟩,
  fun _ qR _ xs h=>.inr ⟨qR,xs,h,Nat.le_refl _,fun _=>⟨rfl,rfl⟩⟩,fun _ h=>h,Nat.le_refl _,fun _ _ _=>rfl⟩
theorem Ext.trans{a b c:KS}(h:Ext a b)(k:Ext b c):Ext a c:=by
 refine⟨k.os.trans h.os,k.tape.trans h.tape,k.output.trans h.output,Nat.le_trans h.size k.size,?_,?_,?_,?_,?_,fun b hb=>k.dead b (h.dead b hb),Nat.le_trans h.Dy k.Dy,?_⟩
 ·intro i hi
  obtain⟨h1,h2⟩:=h.same i hi
  obtain⟨h3,h4⟩:=k.same i h1
  exact⟨h3,h4.trans h2⟩
 ·intro i hi
  rcases k.fresh i hi with h1 | h1 | ⟨b,n,h1⟩
  ·exact h.fresh i h1
  ·exact .inr (.inl (Nat.le_trans h.size h1))
  ·rcases h.phs b i n h1 with h2 | h2
   ·exact .inr (.inr ⟨b,n,h2⟩)
   ·exact .inr (.inl h2)
 ·intro i blk n hi
  rcases k.phs i blk n hi with h1 | h1
  ·exact h.phs i blk n h1
  ·exact .inr (Nat.le_trans h.size h1)
 ·intro i d hi
  obtain⟨⟨d',yv⟩,hp⟩:=h.var i d hi
  obtain⟨zfo,hp'⟩:=k.var i d' yv
  exact⟨zfo,hp'.trans hp⟩
 ·intro i v0 e oW hi
  rcases h.arr i v0 e oW hi with h1 | ⟨v1,x1,h1,h2,h3⟩
  ·exact .inl (k.dead i h1)
  ·rcases k.arr i v1 e x1 h1 with g1 | ⟨v2,x2,g1,g2,g3⟩
   ·exact .inl g1
   ·refine .inr ⟨v2,x2,g1,Nat.le_trans h2 g2,fun he => ?_⟩
    have e1:v1=v2:=by omega
    have e0:v0=v1:=by omega
    exact⟨(g3 e1).1.trans (h3 e0).1,(h3 e0).2.trans (g3 e1).2⟩
 ·intro i hi hn
  refine(k.frame i (Nat.lt_of_lt_of_le hi h.size) fun b n hb => ?_).trans (h.frame i hi hn)
  rcases h.phs b i n hb with h1 | h1
  ·exact hn b n h1
  ·omega
theorem Ext.old{κ κ':KS}(x:Ext κ κ'){b qR:Nat}(h:Old κ.st b qR):Old κ'.st b qR:=by
 rcases h with h | ⟨v0,e0,oW,h,hv⟩
 ·exact .inl (x.dead b h)
 ·rcases x.arr b v0 e0 oW h with h1 | ⟨v1,x1,h1,h2,_⟩
  ·exact .inl h1
  ·exact .inr ⟨v1,e0,x1,h1,Nat.le_trans hv h2⟩
theorem Ext.back{κ κ':KS}(x:Ext κ κ'){b qR:Nat}(h:Old κ.st b qR){e:Ty}{xs:List (den e)}(hx:κ'.st[b]? = some (.arr qR e xs)) :
  ∃ oW:List (den e),κ.st[b]? = some (.arr qR e oW)∧κ'.ph[b]? = κ.ph[b]? ∧ oW.length=xs.length:=by
 rcases h with h | ⟨v0,e0,oW,h,hv⟩
 ·have:=x.dead b h; rw[hx]at this; cases this
 ·rcases x.arr b v0 e0 oW h with h1 | ⟨v1,x1,h1,h2,h3⟩
  ·rw[hx]at h1; cases h1
  ·rw[hx]at h1
   cases h1
   have e0:v0=qR:=by omega
   subst e0
   exact⟨oW,h,(h3 rfl).1,(h3 rfl).2⟩
theorem RD.mono{κ κ':KS}(x:Ext κ κ'){d:D}{v:Value}(h:RD κ d v):RD κ' d v:=by
 induction h with
 | zW τ y cs h=>exact .zW τ y cs (h.mono x.same)
 | xG e a=>exact .xG e a
 | tight e l ne blk off f uj wg h hc=>exact .tight e l ne blk off f uj (x.same _ wg).1 (fun i hi=>(h i hi).mono x.same) fun i hi j v hv=>by rw[cd (x.same _ wg).2]; exact hc i hi j v hv
 | xm=>exact .xm
 | yA=>exact .yA
 | xX=>exact .xX
 | vO=>exact .vO
 | vP=>exact .vP
 | Zh v h=>exact .Zh v h
 | dL T=>exact .dL T
 | dv b T d hd =>
  obtain⟨⟨d',yv⟩,hp⟩:=x.var b d hd
  exact .dv b T d' yv
 | cY b T blk n d hd h =>
  obtain⟨⟨d',yv⟩,hp⟩:=x.var b d hd
  exact .cY b T blk n d' yv (hp.trans h)
 | ptr b off blk n d hd h =>
  obtain⟨⟨d',yv⟩,hp⟩:=x.var b d hd
  exact .ptr b off blk n d' yv (hp.trans h)
 | xo τ y cs blk off wg h hc=>exact .xo τ y cs blk off (x.same _ wg).1 (h.mono x.same) fun j v hv=>by rw[cd (x.same _ wg).2]; exact hc j v hv
 | uo b qR e idx off blk o hb h =>
  refine .uo b qR e idx off blk o (x.old hb) fun xs hx hi => ?_
  obtain⟨oW,h1,h2,h3⟩:=x.back hb hx
  rw[h2]
  exact h oW h1 (by omega)
 | ms b qR e off len cap a hb wD ha tq h =>
  refine .ms b qR e off len cap a (x.old hb) wD ha tq fun xs hx => ?_
  obtain⟨oW,h1,h2,h3⟩:=x.back hb hx
  have:=h oW h1
  unfold Mh at this ⊢
  rw[h2,← h3]
  exact this
 | xk f l vs hl h ih=>exact .xk f l vs hl ih
 | agg l vs hl ho h ih=>exact .agg l vs hl ho ih
 | gB l vs hl h ih=>exact .gB l vs hl ih
 | iface t d v h ih=>exact .iface t d v ih
end Go.AM
namespace Go.AM
section
variable {α β:Type}
theorem T.zS{t:T α}{k:α→T β}{b:β}:(t.bind k).leads b↔∃ a,t.leads a∧(k a).leads b:=by
 induction t with
 | ret a=>simp[T.bind,T.leads]
 | ite c t e i1 i2 =>
  simp only[T.bind,T.leads,i1,i2]
  constructor
  ·rintro(⟨h,a,x,y⟩ | ⟨h,a,x,y⟩)
   ·exact⟨a,.inl ⟨h,x⟩,y⟩
   ·exact⟨a,.inr ⟨h,x⟩,y⟩
  ·rintro⟨a,⟨h,x⟩ | ⟨h,x⟩,y⟩
   ·exact .inl ⟨h,a,x,y⟩
   ·exact .inr ⟨h,a,x,y⟩
 | zd p t ih =>
  simp only[T.bind,T.leads,ih]; constructor
  ·rintro⟨h,a,x,y⟩; exact⟨a,⟨h,x⟩,y⟩
  ·rintro⟨a,⟨h,x⟩,y⟩; exact⟨h,a,x,y⟩
 | fail=>simp[T.bind,T.leads]
theorem T.ue{o:Option α}{a:α}:(T.V4 o).leads a↔o=some a:=by cases o<;>simp[T.V4,T.leads]
end
section
variable {κ:KS}
theorem xv.nil:xv κ [] []:=⟨rfl,fun i h _=>absurd h (Nat.not_lt_zero i)⟩
theorem xv.cons{d:D}{v:Value}{l:List D}{vs:List Value}(h:RD κ d v)(t:xv κ l vs):xv κ (d::l) (v::vs) :=
 ⟨by simp[t.1],fun i h1 h2=>by cases i with | zero=>exact h | succ i=>exact t.2 i (by simpa using h1) (by simpa using h2)⟩
theorem xv.cons_inv{d:D}{l:List D}{vs:List Value}(h:xv κ (d::l) vs):∃ v r,vs=v::r∧RD κ d v∧xv κ l r:=by
 obtain⟨hl,h⟩:=h
 cases vs with
 | nil=>simp at hl
 | cons v r=>exact⟨v,r,rfl,h 0 (by simp) (by simp),by simpa using hl,fun i h1 h2=>h (i+1) (by simpa using h1) (by simpa using h2)⟩
theorem xv.qG{vs:List Value}(h:xv κ [] vs):vs=[]:=List.eq_nil_of_length_eq_zero h.1.symm
theorem xv.append{l l':List D}{vs vs':List Value}(h:xv κ l vs)(h':xv κ l' vs'):xv κ (l++l') (vs++vs'):=by
 induction l generalizing vs with
 | nil=>rw[h.qG]; exact h'
 | cons d l ih=>obtain⟨v,r,rfl,h1,h2⟩:=h.cons_inv; exact .cons h1 (ih h2)
theorem xv.EZ{l l':List D}{vs:List Value}(h:xv κ (l++l') vs):∃ v1 v2,vs=v1++v2∧xv κ l v1∧xv κ l' v2:=by
 induction l generalizing vs with
 | nil=>exact⟨[],vs,rfl,.nil,h⟩
 | cons d l ih =>
  obtain⟨v,r,rfl,h1,h2⟩:=h.cons_inv
  obtain⟨v1,v2,rfl,h3,h4⟩:=ih h2
  exact⟨v::v1,v2,rfl,.cons h1 h3,h4⟩
theorem xv.get{l:List D}{vs:List Value}(h:xv κ l vs){i:Nat}{d:D}(hd:l[i]? = some d):∃ v,vs[i]? = some v∧RD κ d v:=by
 obtain⟨qp,he⟩:=List.getElem?_eq_some_iff.1 hd
 have h2:i<vs.length:=h.1▸qp
 exact⟨vs[i],List.getElem?_eq_getElem h2,he▸h.2 i qp h2⟩
theorem xv.take{l:List D}{vs:List Value}(h:xv κ l vs)(n:Nat):xv κ (l.take n) (vs.take n) :=
 ⟨by simp[h.1],fun i h1 h2=>by simp only[List.getElem_take]; exact h.2 i (by simp at h1; omega) (by simp at h2; omega)⟩
theorem xv.drop{l:List D}{vs:List Value}(h:xv κ l vs)(n:Nat):xv κ (l.drop n) (vs.drop n) :=
 ⟨by simp[h.1],fun i h1 h2=>by simp only[List.getElem_drop]; exact h.2 (n+i) (by simp at h1; omega) (by simp at h2; omega)⟩
theorem xv.mono{κ':KS}(x:Ext κ κ'){l:List D}{vs:List Value}(h:xv κ l vs):xv κ' l vs:=⟨h.1,fun i h1 h2=>(h.2 i h1 h2).mono x⟩
theorem Xl{τ:Ty}{cs:List Value}(h:cs.length=τ.size)(oq:∀ v∈cs,v.oneCell'=true):(pk τ cs).cells.toList=cs:=by
 unfold pk
 split
 ·simp[Value.cells]
 ·rename_i hn
  have hs:τ.size=1:=by cases τ<;>simp[Ty.isAgg]at hn<;>rfl
  match cs,h,oq with
  | [v],_,oq =>
   have:=oq v (by simp)
   simp only[List.headD_cons]
   cases v<;>first | rfl | cases this
  | [],h,_=>rw[hs]at h; cases h
  | _::_::_,h,_=>rw[hs]at h; simp at h
theorem JO{τ:Ty}(h:τ.isAgg=false)(v:Value):pk τ [v]=v:=by simp[pk,h]
theorem Vk{τ:Ty}(h:τ.isAgg=false):τ.size=1:=by cases τ<;>simp[Ty.isAgg]at h<;>rfl
theorem Rc.single{w:World}{ok:Nat→Prop}{τ:Ty}{x:den τ}{cs:List Value}(h:Rc w ok τ x cs)(ht:τ.isAgg=false):∃ v,cs=[v]:=by
 have:=h.len
 rw[Vk ht]at this
 match cs,this with
 | [v],_=>exact⟨v,rfl⟩
theorem RD.my{τ:Ty}{x:den τ}{v:Value}(ht:τ.isAgg=false)(h:Rc κ.w κ.ok τ x [v]):RD κ (.zW τ x) v:=by
 have:=RD.zW τ x [v] h
 rwa [JO ht]at this
theorem RD.b7{τ:Ty}{x:den τ}{v:Value}(h:RD κ (.zW τ x) v):∃ cs,Rc κ.w κ.ok τ x cs∧v=pk τ cs:=by
 cases h with | zW _ _ cs h=>exact⟨cs,h,rfl⟩
theorem RD.wJ{τ:Ty}{x:den τ}{v:Value}(h:RD κ (.zW τ x) v)(ht:τ.isAgg=false):Rc κ.w κ.ok τ x [v]:=by
 obtain⟨cs,hc,rfl⟩:=RD.b7 h
 obtain⟨u,rfl⟩:=hc.single ht
 rwa [JO ht]
theorem RD.int{k:IntKind}{n:Int}:RD κ (.zW (.int k) n) (.int k n):=RD.my rfl (.int k n)
theorem RD.bool{b:Bool}:RD κ (.zW .bool b) (.bool b):=RD.my rfl (.bool b)
theorem RD.str{s:zf}:RD κ (.zW .str s) (.string ⟨s.toArray⟩):=RD.my rfl (.str s)
theorem RD.eV{k:IntKind}{n:Int}{v:Value}(h:RD κ (.zW (.int k) n) v):v=.int k n:=by have:=(h.wJ rfl).eV; simpa using this
theorem RD.gS{b:Bool}{v:Value}(h:RD κ (.zW .bool b) v):v=.bool b:=by have:=(h.wJ rfl).gS; simpa using this
theorem RD.lH{s:zf}{v:Value}(h:RD κ (.zW .str s) v):v=.string ⟨s.toArray⟩:=by have:=(h.wJ rfl).lH; simpa using this
theorem xv.one{d:D}{v:Value}(h:RD κ d v):xv κ [d] [v]:=.cons h .nil
theorem sK{τ:Ty}{x:den τ}{cs:List Value}(h:Rc κ.w κ.ok τ x cs):xv κ (flat τ x) cs:=by
 induction τ generalizing cs with
 | int k=>obtain⟨v,rfl⟩:=h.single rfl; exact .one (.my rfl h)
 | bool=>obtain⟨v,rfl⟩:=h.single rfl; exact .one (.my rfl h)
 | str=>obtain⟨v,rfl⟩:=h.single rfl; exact .one (.my rfl h)
 | sl e _=>obtain⟨v,rfl⟩:=h.single rfl; exact .one (.my rfl h)
 | nil=>rw[h.qG]; exact .nil
 | cons a b i1 i2=>obtain⟨c1,c2,rfl,h1,h2⟩:=h.cons_inv; exact(i1 h1).append (i2 h2)
 | expr =>
  obtain⟨c1,r1,rfl,h1,t1⟩:=h.BV.cons_inv
  obtain⟨c2,r2,rfl,h2,t2⟩:=t1.cons_inv
  obtain⟨c3,r3,rfl,h3,t3⟩:=t2.cons_inv
  obtain⟨c4,r4,rfl,h4,t4⟩:=t3.cons_inv
  have e4:=t4.qG
  subst e4
  obtain⟨d1,s1,rfl,g1,u1⟩:=h2.cons_inv
  obtain⟨d2,s2,rfl,g2,u2⟩:=u1.cons_inv
  obtain⟨d3,s3,rfl,g3,u3⟩:=u2.cons_inv
  have e5:=u3.qG
  subst e5
  obtain⟨v1,rfl⟩:=h1.single rfl
  obtain⟨v3,rfl⟩:=h3.single rfl
  obtain⟨v4,rfl⟩:=h4.single rfl
  obtain⟨u1,rfl⟩:=g1.single rfl
  obtain⟨u2,rfl⟩:=g2.single rfl
  obtain⟨u3,rfl⟩:=g3.single rfl
  exact .cons (.my rfl h1) (.cons (.my rfl g1) (.cons (.my rfl g2) (.cons (.my rfl g3) (.cons (.my rfl h3) (.cons (.my rfl h4) .nil)))))
theorem dJ:∀ (τ:Ty) (x:den τ),∀ d∈flat τ x,d.one=true
 | .int _,_,d,h | .bool,_,d,h | .str,_,d,h | .sl _,_,d,h=>by simp[flat]at h; subst h; rfl
 | .nil,_,d,h=>by simp[flat]at h
 | .cons a b,x,d,h=>by
  simp only[flat,List.mem_append]at h
  rcases h with h | h
  ·exact dJ a x.1 d h
  ·exact dJ b x.2 d h
 | .expr,x,d,h=>by simp[flat]at h; rcases h with rfl | rfl | rfl | rfl | rfl | rfl<;>rfl
theorem jY:∀ (τ:Ty) (x:den τ),(flat τ x).length=τ.size
 | .int _,_ | .bool,_ | .str,_ | .sl _,_ | .nil,_ | .expr,_=>rfl
 | .cons a b,x=>by simp[flat,Ty.size,jY a,jY b]
theorem Yw{v:Value}(h:v.oneCell'=true):v.cells = #[v]:=by
 cases v<;>first | rfl | cases h
theorem jq{d:D}{v:Value}(h:RD κ d v)(ht:d.uy=false):xv κ (qq d) v.cells.toList:=by
 cases h with
 | zW τ x cs h=>rw[Xl h.len h.one]; exact sK h
 | agg l vs hl ho h=>exact⟨by simpa[Value.cells,qq]using hl,fun i h1 h2=>by simp only[Value.cells]at h2 ⊢; exact h i h1 h2⟩
 | gB=>cases ht
 | xG e a=>exact .one (.xG e a)
 | tight e l ne blk off f uj wg h hc=>exact .one (.tight e l ne blk off f uj wg h hc)
 | xm=>exact .one .xm
 | yA=>exact .one .yA
 | xX=>exact .one .xX
 | vO=>exact .one .vO
 | vP=>exact .one .vP
 | Zh v h=>rw[Yw h]; exact .one (.Zh v h)
 | dL T=>exact .one (.dL T)
 | dv b T d hd=>exact .one (.dv b T d hd)
 | cY b T blk n d hd h=>exact .one (.cY b T blk n d hd h)
 | ptr b off blk n d hd h=>exact .one (.ptr b off blk n d hd h)
 | xo τ x cs blk off wg h hc=>exact .one (.xo τ x cs blk off wg h hc)
 | uo b qR e idx off blk o hb h=>exact .one (.uo b qR e idx off blk o hb h)
 | ms b qR e off len cap a hb wD ha tq h=>exact .one (.ms b qR e off len cap a hb wD ha tq h)
 | xk f l vs hl h=>rw[JM]; exact .one (.xk f l vs hl h)
 | iface t d v h=>exact .one (.iface t d v h)
theorem jm{d:D}{v:Value}(h:RD κ d v):∀ x∈qq d,x.one=true:=by
 cases h with
 | zW τ x cs h=>exact dJ τ x
 | agg l vs hl ho h=>exact ho
 | gB=>intro x hx; simp[qq]at hx
 | _=>intro x hx; simp[qq]at hx; subst hx; rfl
theorem RD.Ur{d:D}{v:Value}(h:RD κ d v)(ho:d.one=true):v.oneCell'=true:=by
 cases h with
 | zW τ x cs h =>
  have ht:τ.isAgg=false:=by simpa[D.one]using ho
  obtain⟨v,rfl⟩:=h.single ht
  rw[JO ht]
  exact h.one v (by simp)
 | agg=>cases ho
 | gB=>cases ho
 | Zh v h=>exact h
 | xk f l vs=>exact P8 f vs
 | _=>rfl
theorem qz{a b:Ty}{x:den a}{y:den b}(h:(vQ x:Option (den b))=some y):∃ e:a=b,y=e▸x:=by
 unfold vQ at h
 split at h
 ·rename_i e; cases h; exact⟨e,rfl⟩
 ·cases h
theorem yF{τ:Ty}{d:D}{v:Value}{x:den τ}(h:RD κ d v)(hx:ic τ d=some x)(ht:τ.isAgg=false):Rc κ.w κ.ok τ x [v]:=by
 cases h with
 | zW σ y cs h =>
  obtain⟨rfl,rfl⟩:=qz hx
  obtain⟨u,rfl⟩:=h.single ht
  rwa [JO ht]
 | xG e a=>obtain⟨rfl,rfl⟩:=qz hx; exact .iE e a
 | tight e l ne blk off f uj wg h hc=>obtain⟨rfl,rfl⟩:=qz hx; exact .sl e _ blk off _ f wg (Nat.le_refl _) h hc
 | xm =>
  cases τ with
  | sl e=>simp[ic]at hx; subst hx; exact .iE e none
  | _=>simp[ic]at hx
 | _=>simp[ic]at hx
theorem tK:∀ (τ:Ty) {ds:List D} {vs:List Value} {x:den τ} {r:List D},xv κ ds vs→jx τ ds=some (x,r) →
  ∃ c1 c2,vs=c1++c2∧Rc κ.w κ.ok τ x c1∧xv κ r c2
 | .int k,[],_,_,_,_,he | .bool,[],_,_,_,_,he | .str,[],_,_,_,_,he | .sl e,[],_,_,_,_,he | .expr,[],_,_,_,_,he=>by simp[jx]at he
 | .int k,d::r,vs,x,r',h,he=>by
  simp only[jx]at he
  split at he
  ·rename_i y hy; cases he; obtain⟨v,u,rfl,h1,h2⟩:=h.cons_inv; exact⟨[v],u,rfl,yF h1 hy rfl,h2⟩
  ·cases he
 | .bool,d::r,vs,x,r',h,he=>by
  simp only[jx]at he
  split at he
  ·rename_i y hy; cases he; obtain⟨v,u,rfl,h1,h2⟩:=h.cons_inv; exact⟨[v],u,rfl,yF h1 hy rfl,h2⟩
  ·cases he
 | .str,d::r,vs,x,r',h,he=>by
  simp only[jx]at he
  split at he
  ·rename_i y hy; cases he; obtain⟨v,u,rfl,h1,h2⟩:=h.cons_inv; exact⟨[v],u,rfl,yF h1 hy rfl,h2⟩
  ·cases he
 | .sl e,d::r,vs,x,r',h,he=>by
  simp only[jx]at he
  split at he
  ·rename_i y hy; cases he; obtain⟨v,u,rfl,h1,h2⟩:=h.cons_inv; exact⟨[v],u,rfl,yF h1 hy rfl,h2⟩
  ·cases he
 | .nil,ds,vs,x,r,h,he=>by simp only[jx]at he; cases he; exact⟨[],vs,rfl,.nil,h⟩
 | .cons a b,ds,vs,x,r,h,he=>by
  simp only[jx]at he
  split at he
  ·rename_i y r' hy
   split at he
   ·rename_i z r'' hz
    cases he
    obtain⟨c1,c2,rfl,h1,h2⟩:=tK a h hy
    obtain⟨c3,c4,rfl,h3,h4⟩:=tK b h2 hz
    exact⟨c1++c3,c4,by simp,.cons a b y z c1 c3 h1 h3,h4⟩
   ·cases he
  ·cases he
 | .expr,d::r,vs,x,r',h,he=>by
  simp only[jx]at he
  split at he
  ·cases he
  ·rename_i k hk
   split at he
   ·rename_i d1 d2 d3 d4 d5 r0
    split at he
    ·rename_i a n m s l ha hn hm hs hl
     cases he
     obtain⟨v,u,rfl,h0,t0⟩:=h.cons_inv
     obtain⟨v1,u1,rfl,h1,t1⟩:=t0.cons_inv
     obtain⟨v2,u2,rfl,h2,t2⟩:=t1.cons_inv
     obtain⟨v3,u3,rfl,h3,t3⟩:=t2.cons_inv
     obtain⟨v4,u4,rfl,h4,t4⟩:=t3.cons_inv
     obtain⟨v5,u5,rfl,h5,t5⟩:=t4.cons_inv
     refine⟨[v]++(([v1]++([v2]++([v3]++[])))++([v4]++([v5]++[]))),u5,by simp,.expr _ _ _ _ _ ?_,t5⟩
     exact .cons i64 _ k _ _ _ (yF h0 hk rfl) (.cons YI _ (a,n,m,()) _ _ _ (.cons .bool _ a _ _ _ (yF h1 ha rfl) (.cons _ _ n _ _ _ (yF h2 hn rfl) (.cons _ _ m _ _ _ (yF h3 hm rfl) .nil)))
      (.cons .str _ s _ _ _ (yF h4 hs rfl) (.cons _ _ l _ _ _ (yF h5 hl rfl) .nil)))
    ·cases he
   ·cases he
theorem cE{τ:Ty}{d:D}{v:Value}{x:den τ}(h:RD κ d v)(hx:dM τ d=some x):RD κ (.zW τ x) v:=by
 have key:(∀ σ y,d≠.zW σ y)→(bif (d.isAgg==τ.isAgg) && !d.uy then(match jx τ (qq d)with | some (x,[])=>some x | _=>none)else none)=some x→RD κ (.zW τ x) v:=by
  intro hni hx
  cases hc:(d.isAgg==τ.isAgg) && !d.uy with
  | false=>rw[hc]at hx; cases hx
  | true =>
  rw[hc]at hx
  simp only[cond_true]at hx
  simp only[Bool.and_eq_true,beq_iff_eq,Bool.not_eq_true']at hc
  obtain⟨z2V,HK⟩:=hc
  split at hx
  ·rename_i y hy
   cases hx
   obtain⟨c1,c2,he,h1,h2⟩:=tK τ (jq h HK) hy
   have e2:=h2.qG
   subst e2
   rw[List.append_nil]at he
   have hv:v=pk τ c1:=by
    rw[← he]
    cases hd:d.isAgg with
    | true =>
     cases d<;>simp[D.isAgg]at hd
     cases h with | agg l vs hl ho h=>simp[pk,D.isAgg]at z2V ⊢; simp[← z2V,Value.cells]
    | false =>
     rw[hd]at z2V
     simp only[pk,← z2V,Bool.false_eq_true,if_false]
     cases h<;>first | rfl | (rw[JM]; rfl) | (rename_i hu; rw[Yw hu]; rfl) | (rename_i σ y cs hc; exact absurd rfl (hni σ y)) | (simp[D.isAgg]at hd; done) | (simp[D.uy]at HK; done)
   rw[hv]
   exact .zW τ _ c1 h1
  ·cases hx
 cases d with
 | zW σ y=>obtain⟨rfl,rfl⟩:=qz hx; exact h
 | _=>exact key (fun _ _=>nofun) hx
end
end Go.AM
namespace Go.AM
set_option linter.unusedSectionVars false
variable [uz]
def qY(P:Program)(s:Sem Next)(κ:KS)(d:Option D)(zL:St):Prop :=
 ∃ (κ':KS) (n:Next) (v:Value),s.run P κ.w=.ok n κ'.w∧(n=.value v∨(n=.skip∧v=undef))∧κ'.st=zL∧Inv κ'∧Ext κ κ'∧∀ d',d=some d'→RD κ' d' v
section
variable {c:Ctx} {κ:KS}
theorem qY.pure{s:Sem Value}{d:D}{v:Value}(hi:Inv κ)(h:s.run c.P κ.w=.ok v κ.w)(hd:RD κ d v):qY c.P (do Pure.pure (.value (← s))) κ (some d) κ.st :=
 ⟨κ,.value v,v,by simp[h],.inl rfl,rfl,hi,Ext.refl κ,fun _ he=>by cases he; exact hd⟩
theorem qY.val{d:Option D}{v:Value}(hi:Inv κ)(hd:∀ d',d=some d'→RD κ d' v):qY c.P (Pure.pure (.value v)) κ d κ.st :=
 ⟨κ,.value v,v,rfl,.inl rfl,rfl,hi,Ext.refl κ,hd⟩
theorem fD{t n:Nat}(h:lL c t=some n):∃ i,c.P.info? t=some i∧i.size=n:=by
 unfold lL at h
 cases hi:c.P.info? t with
 | none=>simp[hi]at h
 | some i=>exact⟨i,rfl,by simpa[hi]using h⟩
theorem run_sizeOf{t n:Nat}(h:lL c t=some n)(w:World):(sizeOf t).run c.P w=.ok n w:=by
 obtain⟨i,h1,h2⟩:=fD h
 simp[sizeOf,typeInfo,h1,h2]
theorem sP{t:Nat}{b:Bool}(h:Bq c t=some b)(w:World):(isAgg t).run c.P w=.ok b w:=by
 unfold Bq at h
 cases hu:c.P.underlying t with
 | none=>simp[hu]at h
 | some d =>
  simp only[isAgg,Sem.run_bind,run_underlying hu,Result.andThen_ok]
  cases d<;>simp[hu]at h<;>simp[← h]
theorem vp{t:Nat}{τ:Ty}(h:kP c t τ=true):lL c t=some τ.size∧Bq c t=some τ.isAgg:=by
 unfold kP at h
 simp only[Bool.and_eq_true]at h
 obtain⟨⟨_,h1⟩,h2⟩:=h
 constructor
 ·split at h1
  ·rename_i n hn; rw[hn,Nat.eq_of_beq_eq_true h1]
  ·cases h1
 ·split at h2
  ·rename_i b hb; rw[hb]; simpa using h2
  ·cases h2
theorem QY{t:Nat}{τ:Ty}(h:kP c t τ=true):z4h τ t:=by
 unfold kP at h
 simp only[Bool.and_eq_true]at h
 intro e
 subst e
 exact Nat.eq_of_beq_eq_true h.1.1
omit [uz]in
theorem vB(blk o j:Nat):(⟨blk,o,none⟩:Addr).add j=⟨blk,o+j,none⟩:=by unfold Addr.add; split<;>simp_all
theorem lK{t:Nat}{b:Bool}{n blk o:Nat}{cs:List Value}(ha:Bq c t=some b)(hn:lL c t=some n)(hl:cs.length=n)(h1:b=false→n=1)
  (hc:∀ j v,cs[j]? = some v→κ.w.cell? ⟨blk,o+j,none⟩=some v) :
  (loadVar t ⟨blk,o,none⟩).run c.P κ.w=.ok (if b then .agg cs.toArray else cs.headD undef) κ.w:=by
 simp only[loadVar,Sem.run_bind,sP ha,Result.andThen_ok]
 cases b with
 | true =>
  simp only[if_true,Sem.run_bind,run_sizeOf hn,Result.andThen_ok]
  rw[← hl,run_loadCells_list κ.w ⟨blk,o,none⟩ cs (fun j v hj=>by rw[vB]; exact hc j v hj)]
  simp
 | false =>
  have:=h1 rfl
  subst this
  match cs,hl with
  | [v],_ =>
   have:=hc 0 v rfl
   simp only[Nat.add_zero]at this
   simp[this]
theorem SX{t:Nat}{τ:Ty}{x:den τ}{cs:List Value}{blk o:Nat}(ht:kP c t τ=true)(h:Rc κ.w κ.ok τ x cs)
  (hc:∀ j v,cs[j]? = some v→κ.w.cell? ⟨blk,o+j,none⟩=some v):(loadVar t ⟨blk,o,none⟩).run c.P κ.w=.ok (pk τ cs) κ.w:=by
 obtain⟨h1,h2⟩:=vp ht
 rw[lK (c:=c) h2 h1 h.len (fun e=>Vk e) hc]
 cases he:τ.isAgg<;>simp[pk,he]
theorem wE{t:T (Option D)}{st zL:St}{d:Option D}:(zU (.val t) st).leads (d,zL)↔t.leads d∧zL=st:=by
 simp only[zU,T.zS,T.leads,Prod.mk.injEq]
 constructor
 ·rintro⟨a,h,rfl,rfl⟩; exact⟨h,rfl⟩
 ·rintro⟨h,rfl⟩; exact⟨d,h,rfl,rfl⟩
theorem nf{k:St→T (Option D)}{st zL:St}{d:Option D}:(zU (.rd k) st).leads (d,zL)↔(k st).leads d∧zL=st:=by
 simp only[zU,T.zS,T.leads,Prod.mk.injEq]
 constructor
 ·rintro⟨a,h,rfl,rfl⟩; exact⟨h,rfl⟩
 ·rintro⟨h,rfl⟩; exact⟨d,h,rfl,rfl⟩
theorem zj{st:St}{r:Option D×St}:¬ (zU bad st).leads r:=by obtain⟨d,zL⟩:=r; rw[bad,wE]; exact fun h=>h.1
theorem w9{x:D}{st zL:St}{d:Option D}:(zU (AM.val x) st).leads (d,zL)↔d=some x∧zL=st:=by
 rw[AM.val,wE]; simp only[T.leads]; exact⟨fun h=>⟨h.1.symm,h.2⟩,fun h=>⟨h.1.symm,h.2⟩⟩
theorem wY{p:Prop}{x:D}{st zL:St}{d:Option D}:(zU (.val (.zd p (.ret (some x)))) st).leads (d,zL)↔p∧d=some x∧zL=st:=by
 rw[wE]; simp only[T.leads]
 exact⟨fun h=>⟨h.1.1,h.1.2.symm,h.2⟩,fun h=>⟨⟨h.1,h.2.1.symm⟩,h.2.2⟩⟩
theorem K1{x:Option D}{st zL:St}{d:Option D}(h:(zU (z2w x) st).leads (d,zL)):∃ y,x=some y∧d=some y∧zL=st:=by
 cases x with
 | none=>exact absurd h zj
 | some y=>rw[z2w,wE]at h; exact⟨y,rfl,h.1.symm,h.2⟩
theorem Uh:∀ (τ:Ty) (x:den τ) {cs:List Value},xv κ (flat τ x) cs→Rc κ.w κ.ok τ x cs
 | .int k,x,cs,h=>by obtain⟨v,r,rfl,h1,h2⟩:=h.cons_inv; rw[h2.qG]; exact h1.wJ rfl
 | .bool,x,cs,h=>by obtain⟨v,r,rfl,h1,h2⟩:=h.cons_inv; rw[h2.qG]; exact h1.wJ rfl
 | .str,x,cs,h=>by obtain⟨v,r,rfl,h1,h2⟩:=h.cons_inv; rw[h2.qG]; exact h1.wJ rfl
 | .sl e,x,cs,h=>by obtain⟨v,r,rfl,h1,h2⟩:=h.cons_inv; rw[h2.qG]; exact h1.wJ rfl
 | .nil,x,cs,h=>by rw[h.qG]; exact .nil
 | .cons a b,x,cs,h=>by
  obtain⟨c1,c2,rfl,h1,h2⟩:=xv.EZ h
  exact .cons a b x.1 x.2 c1 c2 (Uh a x.1 h1) (Uh b x.2 h2)
 | .expr,.mk k (a,n,m,()) s l,cs,h=>by
  obtain⟨v,u,rfl,h0,t0⟩:=h.cons_inv
  obtain⟨v1,u1,rfl,h1,t1⟩:=t0.cons_inv
  obtain⟨v2,u2,rfl,h2,t2⟩:=t1.cons_inv
  obtain⟨v3,u3,rfl,h3,t3⟩:=t2.cons_inv
  obtain⟨v4,u4,rfl,h4,t4⟩:=t3.cons_inv
  obtain⟨v5,u5,rfl,h5,t5⟩:=t4.cons_inv
  rw[t5.qG]
  have e:[v,v1,v2,v3,v4,v5]=[v]++(([v1]++([v2]++([v3]++[])))++([v4]++([v5]++[]))):=rfl
  rw[e]
  exact .expr _ _ _ _ _ (.cons i64 _ k _ _ _ (h0.wJ rfl) (.cons YI _ (a,n,m,()) _ _ _ (.cons .bool _ a _ _ _ (h1.wJ rfl) (.cons (.sl u32) (.cons (.sl u32) .nil) n (m,()) [v2] ([v3]++[]) (h2.wJ rfl) (.cons (.sl u32) .nil m () [v3] [] (h3.wJ rfl) .nil)))
      (.cons .str _ s _ _ _ (h4.wJ rfl) (.cons (.sl .expr) .nil l () [v5] [] (h5.wJ rfl) .nil))))
theorem LX{t:Nat}{d r:D}{off:Nat}{vs:List Value}(h:DW c t d off=some r)(hd:xv κ (qq d) vs)(oq:∀ x∈qq d,x.one=true) :
  (∃ n,Bq c t=some true∧lL c t=some n∧off+n≤vs.length∧RD κ r (.agg ((vs.drop off).take n).toArray)) ∨
  (∃ v,Bq c t=some false∧vs[off]? = some v∧RD κ r v):=by
 unfold DW at h
 split at h
 ·rename_i ha
  split at h
  ·cases h
  ·rename_i n hn
   refine .inl ⟨n,ha,hn,?_⟩
   cases hb:(Nat.beq off 0&&Nat.beq n (qq d).length&&d.zal)with
   | true =>
    rw[hb]at h
    simp only[cond_true,Option.some.injEq]at h
    subst h
    simp only[Bool.and_eq_true]at hb
    obtain⟨⟨h1,h2⟩,h3⟩:=hb
    have e1:off=0:=Nat.eq_of_beq_eq_true h1
    have e2:n=(qq d).length:=Nat.eq_of_beq_eq_true h2
    subst e1
    have hl:=hd.1
    rw[e2,hl]
    refine⟨by omega,?_⟩
    simp only[List.drop_zero,List.take_length]
    cases d with
    | zW τ x =>
     have:=RD.zW τ x vs (Uh τ x hd)
     simpa[pk,show τ.isAgg=true from h3]using this
    | agg l=>exact .agg l vs hl oq hd.2
    | _=>cases h3
   | false =>
    rw[hb]at h
    simp only[cond_false]at h
    split at h
    ·rename_i l hl
     cases h
     unfold G3 at hl
     cases hle:Nat.ble (off+n) (qq d).length with
     | false=>rw[hle]at hl; cases hl
     | true =>
      rw[hle]at hl
      cases hl
      have Yf:=Nat.le_of_ble_eq_true hle
      refine⟨by rw[← hd.1]; exact Yf,?_⟩
      have ht:=(hd.drop off).take n
      exact .agg _ _ ht.1 (fun x hx=>oq x (List.mem_of_mem_drop (List.mem_of_mem_take hx))) ht.2
    ·cases h
 ·rename_i ha
  obtain⟨v,h1,h2⟩:=hd.get h
  exact .inr ⟨v,ha,h1,h2⟩
 ·cases h
theorem UM{t:Nat}{d r:D}{off blk:Nat}{vs:List Value}(base:Nat)(h:DW c t d off=some r)(hd:xv κ (qq d) vs)(oq:∀ x∈qq d,x.one=true)
  (hc:∀ j v,vs[j]? = some v→κ.w.cell? ⟨blk,base+j,none⟩=some v):∃ v,(loadVar t ⟨blk,base+off,none⟩).run c.P κ.w=.ok v κ.w∧RD κ r v:=by
 rcases LX h hd oq with⟨n,ha,hn,hle,hr⟩ | ⟨v,ha,hv,hr⟩
 ·refine⟨_,?_,hr⟩
  rw[lK (c:=c) (b:=true) (cs:=(vs.drop off).take n) ha hn (by simp; omega) nofun]
  ·simp
  ·intro j v hj
   rw[Nat.add_assoc]
   refine hc _ _ ?_
   rw[List.getElem?_take]at hj
   split at hj
   ·rwa [List.getElem?_drop]at hj
   ·cases hj
 ·refine⟨v,?_,hr⟩
  simp only[loadVar,Sem.run_bind,sP ha,Result.andThen_ok]
  simp[hc off v hv]
theorem Inv.II{κ:KS}(hi:Inv κ){b:Nat}{x:yd}(h:κ.st[b]? = some x):iH κ b x:=hi.blk b x h
theorem tI{blk:Nat}{cs:Array Value}{t:TypeId}{fz:Nat×Nat}(h:κ.w.heap[blk]? = some (.cells cs t fz))(o:Nat):κ.w.cell? ⟨blk,o,none⟩=cs[o]? := by
 simp[World.cell?,h]
theorem Mz{t:Nat}{x:Option D}{v:Value}{d:Option D}{zL:St}(hi:Inv κ)(hx:∀ y,x=some y→RD κ y v)(h:(zU (K8 c t x) κ.st).leads (d,zL)) :
  qY c.P (do Pure.pure (.value (← Instr.loadAt t v))) κ d zL:=by
 unfold K8 at h
 split at h
 ·rename_i τ y
  cases ht:kP c t τ with
  | false=>rw[ht]at h; exact absurd h zj
  | true =>
   rw[ht,cond_true,w9]at h
   obtain⟨rfl,rfl⟩:=h
   cases hx _ rfl with
   | xo _ _ cs blk off wg hr hc =>
    exact qY.pure hi (by simp[Instr.loadAt,Instr.sureAddr,SX ht hr hc]) (.zW τ y cs hr)
 ·rename_i b off
  rw[nf]at h
  obtain⟨h,rfl⟩:=h
  split at h
  ·rename_i d0 hb
   split at h
   ·rename_i r hr
    cases h
    cases hx _ rfl with
    | ptr _ _ blk n d1 hd hp =>
     obtain⟨lZ,n',cs,T,g1,g2,g3,g4,g5⟩:=hi.blk b _ hb
     rw[hp]at g1
     cases g1
     obtain⟨v,h1,h2⟩:=UM (c:=c) (blk:=blk) 0 hr g4 g5.1 (fun j v hj=>by rw[tI g2]; simpa using hj)
     rw[Nat.zero_add]at h1
     exact qY.pure hi (by simp[Instr.loadAt,Instr.sureAddr,h1]) h2
   ·exact h.elim
  ·exact h.elim
 ·rename_i b qR e idx off
  rw[nf]at h
  obtain⟨h,rfl⟩:=h
  split at h
  ·rename_i jQ e' xs hb
   cases he:decide (e'=e)with
   | false=>rw[he]at h; exact h.elim
   | true =>
    rw[he,cond_true]at h
    have RP:e'=e:=of_decide_eq_true he
    subst RP
    obtain⟨⟨rfl,qp⟩,h⟩:=h
    split at h
    ·rename_i r hr
     cases h
     cases hx _ rfl with
     | uo _ _ _ _ _ blk o hold hp =>
      obtain⟨n,p1,rfl⟩:=hp xs hb qp
      obtain⟨jk,⟨Xy,_⟩ | ⟨lZ,n',cs,T,g1,g2,g3,g4,gr,f,g5⟩⟩:=hi.blk b _ hb
      ·subst Xy; cases qp
      ·rw[p1]at g1
       cases g1
       have hg:xs.getD idx (zb e')=xs[idx]:=by simp[List.getD,List.getElem?_eq_getElem qp]
       rw[hg]at hr
       obtain⟨k1,k2⟩:=g5 idx qp
       obtain⟨v,h1,h2⟩:=UM (c:=c) (blk:=blk) (idx*e'.size) hr (sK k1) (dJ _ _) (fun j v hj=>by rw[tI g2]; exact k2 j v hj)
       exact qY.pure hi (by simp[Instr.loadAt,Instr.sureAddr,h1]) h2
    ·exact h.elim
  ·exact h.elim
 ·exact absurd h zj
end
end Go.AM
namespace Go.AM
set_option linter.unusedSectionVars false
variable [uz]
section
variable {c:Ctx} {κ:KS}
theorem H0{s f o n:Nat}(h:VY c s f=some (o,n)):∃ fs fd,c.P.underlying s=some (.struct fs)∧fs[f]? = some fd∧lL c fd.type=some n∧n≠0∧fd.offset=o:=by
 unfold VY at h
 split at h
 ·rename_i fs hu
  split at h
  ·rename_i fd hf
   split at h
   ·rename_i m hm
    cases hb:Nat.beq m 0 with
    | true=>rw[hb]at h; cases h
    | false =>
     rw[hb]at h
     cases h
     refine⟨fs,fd,hu,hf,hm,?_,rfl⟩
     intro e
     subst e
     cases hb
   ·cases h
  ·cases h
 ·cases h
theorem sq{s f o n blk p:Nat}(h:VY c s f=some (o,n))(w:World) :
  (Instr.fieldAt s (.pointer (some ⟨blk,p,none⟩)) f).run c.P w=.ok (.pointer (some ⟨blk,p+o,none⟩)) w:=by
 obtain⟨fs,fd,h1,h2,h3,h4,h5⟩:=H0 h
 simp[Instr.fieldAt,run_underlying h1,h2,Instr.sureAddr,fieldPlace,run_sizeOf h3,h4,vB,h5]
theorem Uz:∀ (τ:Ty) (x:den τ) (n:Nat) {d:D} {o s:Nat} {cs:List Value},ru τ x n=some (d,o,s)→Rc κ.w κ.ok τ x cs →
  ∃ (σ:Ty) (y:den σ) (c2:List Value),d=.xo σ y∧Rc κ.w κ.ok σ y c2∧s=σ.size∧∀ j v,c2[j]? = some v→cs[o+j]? = some v
 | .cons a b,x,0,d,o,s,cs,h,hr=>by
  simp only[ru]at h
  cases h
  obtain⟨c1,c2,rfl,h1,h2⟩:=hr.cons_inv
  exact⟨a,x.1,c1,rfl,h1,rfl,fun j v hj=>by
   obtain⟨qp,_⟩:=List.getElem?_eq_some_iff.1 hj
   rw[Nat.zero_add,List.getElem?_append_left qp]; exact hj⟩
 | .cons a b,x,n+1,d,o,s,cs,h,hr=>by
  simp only[ru]at h
  split at h
  ·rename_i d' o' s' h'
   cases h
   obtain⟨c1,c2,rfl,h1,h2⟩:=hr.cons_inv
   obtain⟨σ,y,c3,e1,e2,e3,e4⟩:=Uz b x.2 n h' h2
   refine⟨σ,y,c3,e1,e2,e3,fun j v hj => ?_⟩
   have:=h1.len
   rw[List.getElem?_append_right (by omega)]
   have e:a.size+o'+j-c1.length=o'+j:=by omega
   rw[e]; exact e4 j v hj
  ·cases h
 | .expr,.mk k (a,n,m,()) s l,i,d,o,z,cs,h,hr=>by
  obtain⟨c1,r1,rfl,h1,t1⟩:=hr.BV.cons_inv
  obtain⟨c2,r2,rfl,h2,t2⟩:=t1.cons_inv
  obtain⟨c3,r3,rfl,h3,t3⟩:=t2.cons_inv
  obtain⟨c4,r4,rfl,h4,t4⟩:=t3.cons_inv
  have e4:=t4.qG
  subst e4
  have l2:c2.length=3:=h2.len
  obtain⟨v1,rfl⟩:=h1.single rfl
  obtain⟨v3,rfl⟩:=h3.single rfl
  obtain⟨v4,rfl⟩:=h4.single rfl
  match i,h with
  | 0,h=>simp only[ru]at h; cases h; exact⟨i64,_,_,rfl,h1,rfl,fun j v hj=>by match j,hj with | 0,hj=>simpa using hj⟩
  | 1,h => 
   simp only[ru]at h; cases h
   refine⟨YI,_,_,rfl,h2,rfl,fun j v hj => ?_⟩
   obtain⟨qp,_⟩:=List.getElem?_eq_some_iff.1 hj
   rw[show 1+j=j+1 by omega]
   simp only[List.cons_append,List.nil_append,List.getElem?_cons_succ]
   rw[List.getElem?_append_left qp]; exact hj
  | 2,h =>
   simp only[ru]at h; cases h
   refine⟨.str,_,_,rfl,h3,rfl,fun j v hj => ?_⟩
   match j,hj with
   | 0,hj =>
    simp only[List.cons_append,List.nil_append,Nat.add_zero,List.getElem?_cons_succ]
    rw[List.getElem?_append_right (by omega),l2]; simpa using hj
  | 3,h =>
   simp only[ru]at h; cases h
   refine⟨.sl .expr,_,_,rfl,h4,rfl,fun j v hj => ?_⟩
   match j,hj with
   | 0,hj =>
    simp only[List.cons_append,List.nil_append,Nat.add_zero,List.getElem?_cons_succ]
    rw[List.getElem?_append_right (by omega),l2]; simpa using hj
  | n+4,h=>simp[ru]at h
 | .int _,_,_,_,_,_,_,h,_ | .bool,_,_,_,_,_,_,h,_ | .str,_,_,_,_,_,_,h,_ | .sl _,_,_,_,_,_,_,h,_ | .nil,_,_,_,_,_,_,h,_=>by simp[ru]at h
theorem JH{s f:Nat}{x:Option D}{v:Value}{d:Option D}{zL:St}(hi:Inv κ)(hx:∀ y,x=some y→RD κ y v)(h:(zU (sr c s f x) κ.st).leads (d,zL)) :
  qY c.P (do Pure.pure (.value (← Instr.fieldAt s v f))) κ d zL:=by
 unfold sr at h
 split at h
 ·exact absurd h zj
 ·rename_i o n hf
  split at h
  ·rename_i τ y
   split at h
   ·rename_i d' o' n' XU
    cases hb:Nat.beq o o'&&Nat.beq n n' with
    | false=>rw[hb]at h; exact absurd h zj
    | true =>
     rw[hb,cond_true,w9]at h
     obtain⟨rfl,rfl⟩:=h
     simp only[Bool.and_eq_true]at hb
     have e1:o=o':=Nat.eq_of_beq_eq_true hb.1
     subst e1
     cases hx _ rfl with
     | xo _ _ cs blk off wg hr hc =>
      obtain⟨σ,z,c2,rfl,g1,g2,g3⟩:=Uz τ y f XU hr
      exact qY.pure hi (sq hf κ.w) (.xo σ z c2 blk (off+o) wg g1 fun j u hj=>by rw[Nat.add_assoc]; exact hc _ _ (g3 j u hj))
   ·exact absurd h zj
  ·rename_i b off
   rw[w9]at h
   obtain⟨rfl,rfl⟩:=h
   cases hx _ rfl with
   | ptr _ _ blk n d hd hp=>exact qY.pure hi (sq hf κ.w) (.ptr b (off+o) blk n d hd hp)
  ·rename_i b qR e idx off
   rw[w9]at h
   obtain⟨rfl,rfl⟩:=h
   cases hx _ rfl with
   | uo _ _ _ _ _ blk p hold hp =>
    refine qY.pure hi (sq hf κ.w) (.uo b qR e idx (off+o) blk (p+o) hold fun xs h1 h2 => ?_)
    obtain⟨n,h3,h4⟩:=hp xs h1 h2
    exact⟨n,h3,by omega⟩
  ·exact absurd h zj
theorem Ec{s f:Nat}{x:Option D}{v:Value}{d:Option D}{zL:St}(hi:Inv κ)(hx:∀ y,x=some y→RD κ y v)(h:(zU (HZ c s f x) κ.st).leads (d,zL)) :
  qY c.P (do Pure.pure (.value (← Instr.field s v f))) κ d zL:=by
 unfold HZ at h
 split at h
 ·rename_i fs hu
  split at h
  ·rename_i fd hf
   split at h
   ·rename_i y
    obtain⟨r,hr,rfl,rfl⟩:=K1 h
    cases hag:y.dY with
    | false=>rw[hag]at hr; cases hr
    | true =>
    rw[hag,cond_true]at hr
    have hy:=hx _ rfl
    have ⟨vs,hv,hvs⟩:∃ vs,v=.agg vs∧xv κ (qq y) vs.toList:=by
     have hfd:=jq hy (by cases y<;>simp[D.dY,D.uy]at hag ⊢)
     cases hy<;>simp[D.dY]at hag
     ·rename_i τ z cs hc
      exact⟨cs.toArray,by simp[pk,hag],by simpa[pk,hag,Value.cells]using hfd⟩
     ·rename_i l vs hl ho hh
      exact⟨vs.toArray,rfl,by simpa[Value.cells]using hfd⟩
    subst hv
    rcases LX hr hvs (jm hy)with⟨n,ha,hn,hle,hrd⟩ | ⟨u,ha,hu',hrd⟩
    ·refine qY.pure hi ?_ hrd
     simp only[Instr.field,Sem.run_bind,run_underlying hu,Result.andThen_ok,hf,asAgg,Sem.run_pure,part,sP ha,if_true,run_sizeOf hn]
     congr 2
     apply Array.ext'
     simp[Array.toList_extract,List.extract]
    ·refine qY.pure hi ?_ hrd
     have:vs[fd.offset]? = some u:=by simpa using hu'
     simp[Instr.field,run_underlying hu,hf,asAgg,part,sP ha,this]
   ·exact absurd h zj
  ·exact absurd h zj
 ·exact absurd h zj
theorem uu{t e:Nat}(h:iW c t=some e):c.P.underlying t=some (.slice e):=by
 unfold iW at h
 split at h
 ·rename_i e' hu; cases h; exact hu
 ·cases h
theorem uh{x:Option D}{k:IntKind}{n:Int}{v:Value}(h:asInt x=some (k,n))(hx:∀ y,x=some y→RD κ y v):v=.int k n:=by
 unfold asInt at h
 split at h
 ·cases h; exact(hx _ rfl).eV
 ·cases h
theorem sb{x:Option D}{s:zf}{v:Value}(h:K3 x=some s)(hx:∀ y,x=some y→RD κ y v):v=.string ⟨s.toArray⟩:=by
 unfold K3 at h
 split at h
 ·cases h; exact(hx _ rfl).lH
 ·cases h
theorem tA{x:Option D}{b:Bool}{v:Value}(h:asBool x=some b)(hx:∀ y,x=some y→RD κ y v):v=.bool b:=by
 unfold asBool at h
 split at h
 ·cases h; exact(hx _ rfl).gS
 ·cases h
theorem Ug{α:Type}{l:List α}{i:Nat}(h:i<l.length)(d:α):List.getD l i d=l[i]:=by simp[List.getD,List.getElem?_eq_getElem h]
theorem rE{a:Ty}(x:den a):(vQ x:Option (den a))=some x:=by simp[vQ]
theorem D2{w:World}{ok:Nat→Prop}:∀ (τ:Ty) (e:Ty) (n:Nat) (x:den τ) (cs:List Value) (i:Nat),BO τ=some (e,n)→Rc w ok τ x cs→i<n →
  ∃ c,Rc w ok e (BE e τ x i) c∧∀ j v,c[j]? = some v→cs[i*e.size+j]? = some v
 | .cons a b,e,n,x,cs,i,ht,hr,hi=>by
  obtain⟨c1,c2,rfl,h1,h2⟩:=hr.cons_inv
  have key:∀ m,(b=.nil∧m=0∨BO b=some (a,m))→i<m+1→∃ c,Rc w ok a (BE a (.cons a b) x i) c∧∀ j v,c[j]? = some v→(c1++c2)[i*a.size+j]? = some v:=by
   intro m hm hi
   cases i with
   | zero =>
    refine⟨c1,by simp only[BE,rE]; exact h1,fun j v hj => ?_⟩
    rw[Nat.zero_mul,Nat.zero_add,List.getElem?_append_left (List.getElem?_eq_some_iff.1 hj).1]; exact hj
   | succ i =>
    rcases hm with⟨rfl,rfl⟩ | hm
    ·omega
    ·obtain⟨c,g1,g2⟩:=D2 b a m x.2 c2 i hm h2 (by omega)
     refine⟨c,g1,fun j v hj => ?_⟩
     have hl:=h1.len
     have:=g2 j v hj
     rw[List.getElem?_append_right (by rw[hl,Nat.add_mul]; omega),hl]
     rw[← this]; congr 1
     rw[Nat.add_mul]; omega
  unfold BO at ht
  split at ht
  ·cases ht; exact key 0 (.inl ⟨rfl,rfl⟩) (by omega)
  ·split at ht
   ·rename_i e' m hb
    cases hd:decide (a=e')with
    | false=>rw[hd]at ht; cases ht
    | true =>
     rw[hd,cond_true]at ht
     cases ht
     have:=of_decide_eq_true hd
     subst this
     exact key m (.inr hb) hi
   ·cases ht
 | .int _,_,_,_,_,_,ht,_,_=>by cases ht
 | .bool,_,_,_,_,_,ht,_,_=>by cases ht
 | .str,_,_,_,_,_,ht,_,_=>by cases ht
 | .sl _,_,_,_,_,_,ht,_,_=>by cases ht
 | .nil,_,_,_,_,_,ht,_,_=>by cases ht
 | .expr,_,_,_,_,_,ht,_,_=>by cases ht
theorem O4{t n e:Nat}(h:z6V c t=some (n,e)):c.P.underlying t=some (.array n e):=by
 unfold z6V at h
 split at h
 ·rename_i hu; cases h; exact hu
 ·cases h
theorem KP{t:Nat}{x i:Option D}{k:IntKind}{n:Int}{v u:Value}{d:Option D}{zL:St}(hi:Inv κ)(hx:∀ y,x=some y→RD κ y v)(hy:∀ y,i=some y→RD κ y u)(Xd:asInt i=some (k,n))
  (h:(zU (J1 c t x n) κ.st).leads (d,zL)):qY c.P (do Pure.pure (.value (← Instr.indexAt t v u))) κ d zL:=by
 have hu':=uh Xd hy
 subst hu'
 unfold J1 at h
 split at h
 ·rename_i m et τ y ha
  have hu:=O4 ha
  split at h
  ·rename_i e m' LL
   cases ht:kP c et e&&Nat.beq m m' with
   | false=>rw[ht]at h; exact absurd h zj
   | true =>
    rw[ht,cond_true,wY]at h
    simp only[Bool.and_eq_true]at ht
    have:=Nat.eq_of_beq_eq_true ht.2
    subst this
    obtain⟨⟨h0,h1⟩,rfl,rfl⟩:=h
    obtain⟨hs,_⟩:=vp ht.1
    cases hx _ rfl with
    | xo _ _ cs blk off wg hrc hc =>
     obtain⟨cc,g1,g2⟩:=D2 τ e m y cs n.toNat LL hrc (by omega)
     refine qY.pure hi ?_ (.xo e _ cc blk (off+n.toNat*e.size) wg g1 fun j v hj=>by rw[Nat.add_assoc]; exact hc _ v (g2 j v hj))
     simp[Instr.indexAt,asIntOf,run_underlying hu,h0,h1,run_sizeOf hs,vB,Instr.sureAddr]
  ·exact absurd h zj
 ·exact absurd h zj
theorem UA{t:Nat}{x i:Option D}{v u:Value}{d:Option D}{zL:St}(hi:Inv κ)(hx:∀ y,x=some y→RD κ y v)(hy:∀ y,i=some y→RD κ y u)
  (h:(zU (pU c t x i) κ.st).leads (d,zL)):qY c.P (do Pure.pure (.value (← Instr.indexAt t v u))) κ d zL:=by
 unfold pU at h
 split at h
 ·rename_i k n het Xd
  exact KP hi hx hy Xd h
 ·rename_i et k n het Xd
  have hu:=uu het
  have hu':=uh Xd hy
  subst hu'
  split at h
  ·rename_i e l
   cases ht:kP c et e with
   | false=>rw[ht]at h; exact absurd h zj
   | true =>
    rw[ht,cond_true,wY]at h
    obtain⟨⟨h0,h1⟩,rfl,rfl⟩:=h
    obtain⟨hs,_⟩:=vp ht
    have qp:n.toNat<List.length l:=by omega
    rcases((hx _ rfl).wJ rfl).ny with⟨rfl,_⟩ | ⟨blk,off,cap,f,he,wg,wD,hh,hc⟩
    ·cases qp
    ·cases he
     rw[Ug qp]
     refine qY.pure hi ?_ (.xo e _ (f n.toNat) blk (off+n.toNat*e.size) wg (hh _ qp) fun j v hj=>hc _ qp j v hj)
     simp[Instr.indexAt,asIntOf,run_underlying hu,h0,h1,run_sizeOf hs,vB]
  ·rename_i e l ne
   cases ht:kP c et e with
   | false=>rw[ht]at h; exact absurd h zj
   | true =>
    rw[ht,cond_true,wY]at h
    obtain⟨⟨h0,h1⟩,rfl,rfl⟩:=h
    obtain⟨hs,_⟩:=vp ht
    have qp:n.toNat<List.length l:=by omega
    cases hx _ rfl with
    | xG=>cases qp
    | tight _ _ _ blk off f uj wg hh hc =>
     rw[Ug qp]
     refine qY.pure hi ?_ (.xo e _ (f n.toNat) blk (off+n.toNat*e.size) wg (hh _ qp) fun j v hj=>hc _ qp j v hj)
     simp[Instr.indexAt,asIntOf,run_underlying hu,h0,h1,run_sizeOf hs,vB]
  ·rename_i b qR e off len
   cases ht:kP c et e with
   | false=>rw[ht]at h; exact absurd h zj
   | true =>
    rw[ht,cond_true,wY]at h
    obtain⟨⟨h0,h1⟩,rfl,rfl⟩:=h
    obtain⟨hs,_⟩:=vp ht
    cases hx _ rfl with
    | ms _ _ _ _ _ cap a hold wD ha tq hm =>
     cases a with
     | none=>have:=ha rfl; omega
     | some p =>
      have hp:=tq p rfl
      obtain⟨blk,o,sp⟩:=p
      simp only at hp
      subst hp
      refine qY.pure hi (v:=.pointer (some ⟨blk,o+n.toNat*e.size,none⟩)) ?_ (.uo b qR e (off+n.toNat) 0 blk _ hold fun xs hb qp => ?_)
      ·simp[Instr.indexAt,asIntOf,run_underlying hu,h0,h1,run_sizeOf hs,vB]
      ·obtain⟨hle,⟨_,_,hv,_⟩ | ⟨lZ,n',o',VT,h3,h4,h5,h6,h7⟩⟩:=hm xs hb
       ·cases hv
       ·cases h4
        refine⟨n',h3,?_⟩
        rcases h7 with h7 | h7
        ·omega
        ·subst h7; rw[Nat.add_mul]; rfl
  ·exact absurd h zj
 ·exact absurd h zj
theorem Ny(s:zf){i:Nat}(h:i<s.length):(⟨s.toArray⟩:ByteArray)[i]? = some s[i]:=by
 have jk:(⟨s.toArray⟩:ByteArray).size=s.length:=rfl
 rw[getElem?_pos _ _ (by rw[jk]; exact h)]
 rfl
theorem E3{t:Nat}{x i:Option D}{v u:Value}{d:Option D}{zL:St}(hi:Inv κ)(hx:∀ y,x=some y→RD κ y v)(hy:∀ y,i=some y→RD κ y u)
  (h:(zU (Ha c t x i) κ.st).leads (d,zL)):qY c.P (do Pure.pure (.value (← Instr.index t v u))) κ d zL:=by
 unfold Ha at h
 split at h
 ·rename_i k n s Xd hs hu
  have hu':=uh Xd hy
  subst hu'
  have hv:=sb hs hx
  subst hv
  rw[wY]at h
  obtain⟨⟨h0,h1⟩,rfl,rfl⟩:=h
  have qp:n.toNat<s.length:=by omega
  rw[Ug qp]
  exact qY.pure hi (by simp[Instr.index,asIntOf,run_underlying hu,h0,Ny s qp]) RD.int
 ·exact absurd h zj
def Va(κ:KS):Option (Option D)→Option Value→Prop
 | none,none=>True
 | some x,some v=>∀ y,x=some y→RD κ y v
 | _,_=>False
theorem K2{d n:Int}{x:Option (Option D)}{v:Option Value}(h:O3 d x=some n)(hx:Va κ x v):(x=none∧v=none∧n=d)∨(x.isSome∧∃ k,v=some (.int k n)):=by
 cases x with
 | none=>cases v with
  | none=>exact .inl ⟨rfl,rfl,by simpa[O3]using h.symm⟩
  | some v=>exact hx.elim
 | some x=>cases v with
  | none=>exact hx.elim
  | some v =>
   simp only[O3]at h
   split at h
   ·rename_i k i hk; cases h; exact .inr ⟨rfl,k,by rw[uh hk hx]⟩
   ·cases h
end
end Go.AM
namespace Go.AM
set_option linter.unusedSectionVars false
variable [uz]
section
variable {c:Ctx} {κ:KS}
theorem ku{P:Program}{isS:Bool}{len cap:Nat}{lo hi mx:Option Value}{l h:Int}{m:Nat}
  (hl:(lo=none∧l=0)∨∃ k,lo=some (.int k l)) (hh:(hi=none∧mx=none∧h=len)∨∃ k,hi=some (.int k h))
  (hm:(mx=none∧m=cap)∨∃ k,mx=some (.int k m)) (h0:0≤l) (h1:l≤h) (h2:h≤m) (h3:m≤cap) (w:World) :
  (Instr.sliceBounds isS len cap lo hi mx).run P w=.ok (l.toNat,h.toNat,m) w:=by
 have hh0:(0:Int)≤h:=by omega
 have pJ:l≤(h.toNat:Int):=by omega
 rcases hl with⟨rfl,rfl⟩ | ⟨k1,rfl⟩<;>rcases hm with⟨rfl,rfl⟩ | ⟨k3,rfl⟩<;>rcases hh with⟨rfl,hx,rfl⟩ | ⟨k2,rfl⟩ <;>
  first
   | (cases hx; done)
   | (simp[Instr.sliceBounds,run_sliceBound, *]; done)
   | (simp[Instr.sliceBounds,run_sliceBound, *]; rw[run_sliceBound _ _ _ _ _ h0 pJ]; rfl)
theorem Cl(s:zf)(l h:Int):(⟨s.toArray⟩:ByteArray).extract l.toNat h.toNat=⟨(gU l h s).toArray⟩:=by
 apply ByteArray.ext
 rw[ByteArray.data_extract]
 apply Array.ext'
 simp[gU,List.extract,List.drop_take]
theorem UG{n:Int}{x:Option (Option D)}{v:Option Value}(h:O3 0 x=some n)(hx:Va κ x v):(v=none∧n=0)∨∃ k,v=some (.int k n):=by
 rcases K2 h hx with⟨_,h1,h2⟩ | ⟨_,h1⟩
 ·exact .inl ⟨h1,h2⟩
 ·exact .inr h1
theorem HJ{d n:Int}{x:Option (Option D)}{v:Option Value}(h:O3 d x=some n)(hx:Va κ x v):(v=none∧n=d)∨∃ k,v=some (.int k n):=by
 rcases K2 h hx with⟨_,h1,h2⟩ | ⟨_,h1⟩
 ·exact .inl ⟨h1,h2⟩
 ·exact .inr h1
theorem XT{v:Option Value}(h:Va κ none v):v=none:=by cases v with | none=>rfl | some _=>exact h.elim
theorem tu{e:Ty}{l:List (den e)}{lo hi:Int}(h0:0≤lo)(h1:lo≤hi)(h2:hi≤(l.length:Int)) :
  (uq lo hi l).length=hi.toNat-lo.toNat∧∀ i (KM:i<(uq lo hi l).length),∃ h:lo.toNat+i<l.length,(uq lo hi l)[i]=l[lo.toNat+i]:=by
 have hlen:(uq lo hi l).length=hi.toNat-lo.toNat:=by simp[uq]; omega
 refine⟨hlen,fun i KM=>⟨by omega,?_⟩⟩
 simp[uq,List.getElem_drop,List.getElem_take]
theorem Ee{e:Ty}{l:List (den e)}{lo hi:Int}{blk off cap m:Nat}{f:Nat→List Value}(wg:κ.ok blk)
  (hh:∀ i (hi:i<l.length),Rc κ.w κ.ok e l[i] (f i)) (hc:∀ i,i<l.length→∀ j v,(f i)[j]? = some v→κ.w.cell? ⟨blk,off+i*e.size+j,none⟩=some v)
  (h0:0≤lo) (h1:lo≤hi) (h2:hi≤(l.length:Int)) (hm:hi≤(m:Int)) (wD:m≤cap) :
  (∀ i (KM:i<(uq lo hi l).length),Rc κ.w κ.ok e (uq lo hi l)[i] (f (lo.toNat+i))) ∧
  (∀ i,i<(uq lo hi l).length→∀ j v,(f (lo.toNat+i))[j]? = some v →
   κ.w.cell? ⟨blk,(if m=lo.toNat then off else off+lo.toNat*e.size)+i*e.size+j,none⟩=some v)∧(uq lo hi l).length≤m-lo.toNat:=by
 obtain⟨hl,hg⟩:=tu h0 h1 h2
 refine⟨fun i KM => ?_,fun i KM j v hj => ?_,by omega⟩
 ·obtain⟨h3,h4⟩:=hg i KM
  rw[h4]; exact hh _ h3
 ·obtain⟨h3,h4⟩:=hg i KM
  have:=hc _ h3 j v hj
  rw[if_neg (by omega)]
  rw[Nat.add_mul,← Nat.add_assoc]at this
  exact this
theorem FI{t:Nat}{x:Option D}{lo hi mx:Option (Option D)}{v:Value}{vl vh vm:Option Value}{d:Option D}{zL:St}(hI:Inv κ)(hx:∀ y,x=some y→RD κ y v)
  (hlo:Va κ lo vl) (hhi:Va κ hi vh) (hmx:Va κ mx vm)
  (h:(zU (GK c t x lo hi mx) κ.st).leads (d,zL)):qY c.P (do Pure.pure (.value (← Instr.sliceAt t v vl vh vm))) κ d zL:=by
 unfold GK at h
 split at h
 ·rename_i s
  obtain⟨s,rfl⟩:∃ s':zf,s=s':=⟨s,rfl⟩
  split at h
  ·rename_i l hh hu hl hh'
   rw[wY]at h
   obtain⟨⟨h0,h1,h2⟩,rfl,rfl⟩:=h
   have hv:=(hx _ rfl).lH
   subst hv
   have e1:=XT hmx
   subst e1
   refine qY.pure hI ?_ RD.str
   have jk:(⟨s.toArray⟩:ByteArray).size=s.length:=rfl
   have hb:=ku (P:=c.P) (isS:=false) (len:=s.length) (cap:=s.length) (mx:=none) (m:=s.length) (UG hl hlo)
    (bW (HJ hh' hhi) (fun h=>⟨h.1,rfl,h.2⟩) id) (.inl ⟨rfl,rfl⟩) h0 h1 h2 (Nat.le_refl _) κ.w
   simp only[Instr.sliceAt,Sem.run_bind,run_underlying hu,Result.andThen_ok,Instr.slice,Option.isSome_none,Bool.false_eq_true,if_false,jk,hb,Cl]
   rfl
  ·exact absurd h zj
 ·rename_i e s
  split at h
  ·rename_i et l hh het hl hh'
   have hu:=uu het
   cases ht:kP c et e with
   | false=>rw[ht]at h; exact absurd h zj
   | true =>
    obtain⟨hs,_⟩:=vp ht
    rw[ht,cond_true]at h
    split at h
    ·rw[wY]at h
     obtain⟨⟨h0,h1,h2⟩,rfl,rfl⟩:=h
     have e1:=XT hmx
     subst e1
     have KR:=UG hl hlo
     have Yb:(vh=none∧(none:Option Value)=none∧hh=(s.length:Int))∨∃ k,vh=some (.int k hh):=bW (HJ hh' hhi) (fun h=>⟨h.1,rfl,h.2⟩) id
     rcases((hx _ rfl).wJ rfl).ny with⟨rfl,a0,he⟩ | ⟨blk,off,cap,f,he,wg,wD,EC,RT⟩
     ·cases he
      simp only[List.length_nil,Int.cast_ofNat_Int]at h2
      have hb:=ku (P:=c.P) (isS:=true) (len:=0) (cap:=0) (mx:=none) (m:=0) KR Yb (.inl ⟨rfl,rfl⟩) h0 h1 h2 (Nat.le_refl _) κ.w
      have e0:l=0:=by omega
      have e2:hh=0:=by omega
      subst e0 e2
      refine qY.pure hI (v:=.slice a0 0 0) ?_ (.my rfl (.iE e a0))
      simp[Instr.sliceAt,run_underlying hu,Instr.slice,hb,run_sizeOf hs]
     ·cases he
      obtain⟨k1,k2,k3⟩:=Ee (lo:=l) (hi:=hh) (cap:=cap) (m:=cap) wg EC RT h0 h1 h2 (by omega) (Nat.le_refl _)
      have hb:=ku (P:=c.P) (isS:=true) (len:=s.length) (cap:=cap) (mx:=none) (m:=cap) KR Yb (.inl ⟨rfl,rfl⟩) h0 h1 (by omega) (Nat.le_refl _) κ.w
      have hlen:=(tu h0 h1 h2).1
      refine qY.pure hI ?_ (.my rfl (.sl e (uq l hh s) blk _ (cap-l.toNat) _ wg k3 k1 k2))
      simp only[Instr.sliceAt,Sem.run_bind,run_underlying hu,Result.andThen_ok,Instr.slice,hb,run_sizeOf hs,Sem.run_pure,hlen]
      congr 3
      split<;>simp[vB]
    ·split at h
     ·rename_i mx m km mi hm'
      cases hhs:hi.isSome with
      | false=>rw[hhs]at h; exact absurd h zj
      | true =>
      rw[hhs,cond_true,wY]at h
      obtain⟨⟨h0,h1,rfl,h2⟩,rfl,rfl⟩:=h
      obtain⟨vm,rfl⟩:∃ u,vm=some u:=by cases vm with | none=>exact hmx.elim | some u=>exact⟨u,rfl⟩
      have hvm:=uh hm' hmx
      subst hvm
      have KR:=UG hl hlo
      have Yb:(vh=none∧(some (Value.int km hh):Option Value)=none∧hh=(s.length:Int))∨∃ k,vh=some (.int k hh):=by
       rcases K2 hh' hhi with⟨g1,_⟩ | ⟨_,g⟩
       ·rw[g1]at hhs; cases hhs
       ·exact .inr g
      have em:((hh.toNat:Nat):Int)=hh:=by omega
      rcases((hx _ rfl).wJ rfl).ny with⟨rfl,a0,he⟩ | ⟨blk,off,cap,f,he,wg,wD,EC,RT⟩
      ·cases he
       simp only[List.length_nil,Int.cast_ofNat_Int]at h2
       have hb:=ku (P:=c.P) (isS:=true) (len:=0) (cap:=0) (mx:=some (.int km hh)) (m:=hh.toNat) KR Yb (.inr ⟨km,by rw[em]⟩) h0 h1 (by omega) (by omega) κ.w
       have e0:l=0:=by omega
       have e2:hh=0:=by omega
       subst e0 e2
       refine qY.pure hI (v:=.slice a0 0 0) ?_ (.xG e a0)
       simp[Instr.sliceAt,run_underlying hu,Instr.slice,hb,run_sizeOf hs]
      ·cases he
       obtain⟨k1,k2,k3⟩:=Ee (lo:=l) (hi:=hh) (cap:=cap) (m:=hh.toNat) wg EC RT h0 h1 h2 (by omega) (by omega)
       have hb:=ku (P:=c.P) (isS:=true) (len:=s.length) (cap:=cap) (mx:=some (.int km hh)) (m:=hh.toNat) KR Yb (.inr ⟨km,by rw[em]⟩) h0 h1 (by omega) (by omega) κ.w
       have hlen:=(tu h0 h1 h2).1
       refine qY.pure hI ?_ (.tight e (uq l hh s) false blk _ _ nofun wg k1 k2)
       simp only[Instr.sliceAt,Sem.run_bind,run_underlying hu,Result.andThen_ok,Instr.slice,hb,run_sizeOf hs,Sem.run_pure,hlen]
       congr 3
       split<;>simp[vB]
     ·exact absurd h zj
  ·exact absurd h zj
 ·rename_i e s ne
  split at h
  ·rename_i et l hh het hl hh'
   have hu:=uu het
   cases ht:kP c et e with
   | false=>rw[ht]at h; exact absurd h zj
   | true =>
    obtain⟨hs,_⟩:=vp ht
    rw[ht,cond_true,wY]at h
    obtain⟨⟨h0,h1,h2⟩,rfl,rfl⟩:=h
    have e1:=XT hmx
    subst e1
    have KR:=UG hl hlo
    have Yb:(vh=none∧(none:Option Value)=none∧hh=(s.length:Int))∨∃ k,vh=some (.int k hh):=bW (HJ hh' hhi) (fun h=>⟨h.1,rfl,h.2⟩) id
    cases hx _ rfl with
    | xG _ a0 =>
     simp only[List.length_nil,Int.cast_ofNat_Int]at h2
     have hb:=ku (P:=c.P) (isS:=true) (len:=0) (cap:=0) (mx:=none) (m:=0) KR Yb (.inl ⟨rfl,rfl⟩) h0 h1 h2 (Nat.le_refl _) κ.w
     have e0:l=0:=by omega
     have e2:hh=0:=by omega
     subst e0 e2
     refine qY.pure hI (v:=.slice a0 0 0) ?_ (.my rfl (.iE e a0))
     simp[Instr.sliceAt,run_underlying hu,Instr.slice,hb,run_sizeOf hs]
    | tight _ _ _ blk off f uj wg EC RT =>
     obtain⟨k1,k2,k3⟩:=Ee (lo:=l) (hi:=hh) (cap:=s.length) (m:=s.length) wg EC RT h0 h1 h2 (by omega) (Nat.le_refl _)
     have hb:=ku (P:=c.P) (isS:=true) (len:=s.length) (cap:=s.length) (mx:=none) (m:=s.length) KR Yb (.inl ⟨rfl,rfl⟩) h0 h1 (by omega) (Nat.le_refl _) κ.w
     have hlen:=(tu h0 h1 h2).1
     refine qY.pure hI ?_ (.my rfl (.sl e (uq l hh s) blk _ (s.length-l.toNat) _ wg k3 k1 k2))
     simp only[Instr.sliceAt,Sem.run_bind,run_underlying hu,Result.andThen_ok,Instr.slice,hb,run_sizeOf hs,Sem.run_pure,hlen]
     congr 3
     split<;>simp[vB]
  ·exact absurd h zj
 ·rename_i b qR e off len
  split at h
  ·rename_i et l hh het hl hh'
   have hu:=uu het
   cases ht:kP c et e with
   | false=>rw[ht]at h; exact absurd h zj
   | true =>
    obtain⟨hs,_⟩:=vp ht
    rw[ht,cond_true,wY]at h
    obtain⟨⟨h0,h1,h2⟩,rfl,rfl⟩:=h
    have e1:=XT hmx
    subst e1
    have KR:=UG hl hlo
    have Yb:(vh=none∧(none:Option Value)=none∧hh=(len:Int))∨∃ k,vh=some (.int k hh):=bW (HJ hh' hhi) (fun h=>⟨h.1,rfl,h.2⟩) id
    cases hx _ rfl with
    | ms _ _ _ _ _ cap a hold wD ha tq hm =>
     have hb:=ku (P:=c.P) (isS:=true) (len:=len) (cap:=cap) (mx:=none) (m:=cap) KR Yb (.inl ⟨rfl,rfl⟩) h0 h1 (by omega) (Nat.le_refl _) κ.w
     refine qY.pure hI (v:=.slice (if cap=l.toNat then a else a.map (·.add (l.toNat*e.size))) (hh.toNat-l.toNat) (cap-l.toNat)) ?_ (.ms b qR e _ _ _ _ hold (by omega) ?_ ?_ ?_)
     ·simp only[Instr.sliceAt,Sem.run_bind,run_underlying hu,Result.andThen_ok,Instr.slice,hb,run_sizeOf hs,Sem.run_pure]
     ·intro hn
      split at hn
      ·have:=ha hn; omega
      ·cases a with | none=>have:=ha rfl; omega | some p=>cases hn
     ·intro p hp
      split at hp
      ·exact tq p hp
      ·cases a with
       | none=>cases hp
       | some q =>
        obtain⟨q1,q2,q3⟩:=q
        have:=tq _ rfl
        simp only at this
        subst this
        simp only[Option.map_some,vB,Option.some.injEq]at hp
        subst hp; rfl
     ·intro xs Vp
      obtain⟨hle,⟨rfl,rfl,hv,hp⟩ | ⟨lZ,n',o',VT,h3,h4,h5,h6,h7⟩⟩:=hm xs Vp
      ·cases hv
       have e0:l=0:=by omega
       have e2:hh=0:=by omega
       subst e0 e2
       exact⟨by simp,.inl ⟨rfl,rfl,rfl,hp⟩⟩
      ·cases h4
       refine⟨by omega,.inr ?_⟩
       by_cases U0:cap=l.toNat
       ·refine⟨lZ,n',o',0,h3,?_,by omega,?_,.inl rfl⟩
        ·simp[U0]
        ·have:(off+l.toNat+0)=off+cap:=by omega
         rw[this]; exact h6
       ·refine⟨lZ,n',o'+l.toNat*e.size,cap-l.toNat,h3,?_,by omega,?_,.inr ?_⟩
        ·simp[U0,vB]
        ·have:off+l.toNat+(cap-l.toNat)=off+cap:=by omega
         rw[this]; exact h6
        ·rcases h7 with h7 | h7
         ·omega
         ·rw[h7,Nat.add_mul]
  ·exact absurd h zj
 ·exact absurd h zj
end
end Go.AM
namespace Go.AM
set_option linter.unusedSectionVars false
variable [uz]
section
variable {c:Ctx} {κ:KS}
theorem rj(op:BinOp)(t:Nat)(x y:Operand)(k k':IntKind)(a b:Int)(P:Program)(w:World):(eqGuard op t x y (.int k a) (.int k' b)).run P w=.ok () w:=by
 unfold eqGuard; split<;>simp
theorem Db(op:BinOp)(t:Nat)(x y:Operand)(a b:ByteArray)(P:Program)(w:World):(eqGuard op t x y (.string a) (.string b)).run P w=.ok () w:=by
 unfold eqGuard; split<;>simp
theorem HN(op:BinOp)(t:Nat)(x y:Operand)(a b:Bool)(P:Program)(w:World):(eqGuard op t x y (.bool a) (.bool b)).run P w=.ok () w:=by
 unfold eqGuard; split<;>simp
theorem yL{k:IntKind}{n:Int}{st zL:St}{d:Option D}:(zU (ib k n) st).leads (d,zL)↔d=some (.zW (.int k) n)∧zL=st:=w9
theorem XF{b:Bool}{st zL:St}{d:Option D}:(zU (bb b) st).leads (d,zL)↔d=some (.zW .bool b)∧zL=st:=w9
theorem Ei{op:BinOp}{k:IntKind}{a b:Int}{d:Option D}{st zL:St}{t:Nat}(h:(zU (Fb op k a b) st).leads (d,zL))(hs:U1 op=false) :
  ∃ y v,d=some y∧zL=st∧(binOp op t (.int k a) (.int k b)).run c.P κ.w=.ok v κ.w∧RD κ y v:=by
 cases op<;>simp only[Fb]at h<;>try (exact absurd h zj)
 all_goals first
  | (rw[yL]at h; obtain⟨rfl,rfl⟩:=h; exact⟨_,_,rfl,rfl,by simp[binOp,Op.intArith,Op.intBits,mh],RD.int⟩)
  | (rw[XF]at h; obtain⟨rfl,rfl⟩:=h; exact⟨_,_,rfl,rfl,by simp[binOp,Op.intCmp],RD.bool⟩)
  | (rw[wY]at h; obtain⟨hb,rfl,rfl⟩:=h; exact⟨_,_,rfl,rfl,by simp[binOp,Op.intDiv,hb],RD.int⟩)
theorem Eu{op:BinOp}{a b:zf}{d:Option D}{st zL:St}{t:Nat}(h:(zU (Fz op a b) st).leads (d,zL))(hs:U1 op=false) :
  ∃ y v,d=some y∧zL=st∧(binOp op t (.string ⟨a.toArray⟩) (.string ⟨b.toArray⟩)).run c.P κ.w=.ok v κ.w∧RD κ y v:=by
 have jk:∀ s:zf,(⟨s.toArray⟩:ByteArray).size=s.length:=fun _=>rfl
 cases op<;>simp only[Fz]at h<;>try (exact absurd h zj)
 case add =>
  rw[wY]at h; obtain⟨hb,rfl,rfl⟩:=h
  refine⟨_,_,rfl,rfl,?_,RD.str⟩
  have e:(⟨a.toArray⟩++⟨b.toArray⟩:ByteArray)=⟨(cat a b).toArray⟩:=by
   apply ByteArray.ext; rw[ByteArray.data_append]; simp[cat]
  have hn:¬ (IntKind.i64.max<((a.length+b.length:Nat):Int)):=by
   have:IntKind.i64.max=9223372036854775807:=by decide
   omega
  simp only[binOp,Op.stringOp,jk,gt_iff_lt,hn,if_false,e]
  rfl
 all_goals (rw[XF]at h; obtain⟨rfl,rfl⟩:=h; exact⟨_,_,rfl,rfl,by simp[binOp,Op.stringOp,zF,strLt],RD.bool⟩)
theorem F0{P:Program}{t:Nat}(hu:P.underlying t=some .bool)(a b:Bool)(w:World):(Op.equal t (.bool a) (.bool b)).run P w=.ok (a==b) w:=by
 unfold Op.equal
 show(Op.equalIn (9999+1) t _ _).run P w=_
 rw[Op.equalIn]
 simp only[Sem.run_bind,run_underlying hu,Result.andThen_ok,Sem.run_pure]
theorem T1{op:BinOp}{t:Nat}{px py:Operand}{x y:Option D}{v u:Value}{d:Option D}{zL:St}(hI:Inv κ)(hx:∀ z,x=some z→RD κ z v)(hy:∀ z,y=some z→RD κ z u)
  (h:(zU (F4 c op t x y) κ.st).leads (d,zL)):qY c.P (do Pure.pure (.value (← (do eqGuard op t px py v u; binOp op t v u)))) κ d zL:=by
 unfold F4 at h
 split at h
 ·rename_i k a k' b hk Dj
  have:=uh hk hx
  subst this
  have:=uh Dj hy
  subst this
  split at h
  ·rw[wY]at h
   obtain⟨hb,rfl,rfl⟩:=h
   refine qY.pure hI ?_ RD.int
   simp only[Sem.run_bind,rj,Result.andThen_ok,binOp,Op.shift,if_neg (show ¬ b<0 by omega)]
   rfl
  ·rw[wY]at h
   obtain⟨hb,rfl,rfl⟩:=h
   refine qY.pure hI ?_ RD.int
   simp only[Sem.run_bind,rj,Result.andThen_ok,binOp,Op.shift,if_neg (show ¬ b<0 by omega)]
   rfl
  ·rename_i n1 n2
   cases he:decide (k=k')with
   | false=>rw[he]at h; exact absurd h zj
   | true =>
    have RP:=of_decide_eq_true he
    subst RP
    rw[he,cond_true]at h
    obtain⟨y',v',rfl,rfl,h1,h2⟩:=Ei (c:=c) (κ:=κ) (t:=t) h (by cases op<;>first | rfl | (exact absurd rfl n1) | (exact absurd rfl n2))
    exact qY.pure hI (by simp only[Sem.run_bind,rj,Result.andThen_ok,h1]) h2
 ·split at h
  ·rename_i a b ha hb
   have:=sb ha hx
   subst this
   have:=sb hb hy
   subst this
   cases hs:U1 op with
   | true=>rw[hs]at h; exact absurd h zj
   | false =>
    rw[hs,cond_false]at h
    obtain⟨y',v',rfl,rfl,h1,h2⟩:=Eu (c:=c) (κ:=κ) (t:=t) h hs
    exact qY.pure hI (by simp only[Sem.run_bind,Db,Result.andThen_ok,h1]) h2
  ·split at h
   ·rename_i a b hu ha hb
    have:=tA ha hx
    subst this
    have:=tA hb hy
    subst this
    cases op<;>simp only[PM]at h<;>try (exact absurd h zj)
    all_goals
     rw[XF]at h; obtain⟨rfl,rfl⟩:=h
     refine qY.pure hI ?_ RD.bool
     simp only[Sem.run_bind,HN,Result.andThen_ok,binOp,F0 hu,Sem.run_pure]
   ·exact absurd h zj
theorem z0v{op:UnOp}{x:Option D}{v:Value}{d:Option D}{zL:St}(hI:Inv κ)(hx:∀ z,x=some z→RD κ z v)
  (h:(zU (z01 op x) κ.st).leads (d,zL)):qY c.P (do Pure.pure (.value (← Op.unary op v))) κ d zL:=by
 unfold z01 at h
 split at h
 ·split at h
  ·rename_i k n hk
   have:=uh hk hx
   subst this
   rw[yL]at h
   obtain⟨rfl,rfl⟩:=h
   exact qY.pure hI (by simp[Op.unary,Op.intArith]) RD.int
  ·exact absurd h zj
 ·split at h
  ·rename_i b hb
   have:=tA hb hx
   subst this
   rw[XF]at h
   obtain⟨rfl,rfl⟩:=h
   exact qY.pure hI (by simp[Op.unary]) RD.bool
  ·exact absurd h zj
 ·split at h
  ·rename_i k n hk
   have:=uh hk hx
   subst this
   rw[yL]at h
   obtain⟨rfl,rfl⟩:=h
   exact qY.pure hI (by simp[Op.unary,Op.intBits,mh]) RD.int
  ·exact absurd h zj
 ·exact absurd h zj
theorem z34{t ty:Nat}{ts:Array Nat}{x:Option D}{v:Value}{vs:Array Value}{d:Option D}{zL:St}(hI:Inv κ)(hx:∀ z,x=some z→RD κ z v)(ht:ts[0]? = some t)(hv:vs[0]? = some v)
  (h:(zU (R7 c t x) κ.st).leads (d,zL)):qY c.P (do Pure.pure (.value (← Builtin.len_ ts ty vs))) κ d zL:=by
 unfold R7 at h
 split at h
 ·rename_i e hu
  have key:∀ (n:Nat) (a:Option Addr) (cap:Nat),v=.slice a n cap→d=some (.zW (.int .i64) (n:Int))→zL=κ.st→qY c.P (do Pure.pure (.value (← Builtin.len_ ts ty vs))) κ d zL:=by
   rintro n a cap rfl rfl rfl
   exact qY.pure hI (by simp[Builtin.len_,ht,hv,run_underlying hu,goInt]) RD.int
  split at h
  ·rename_i e' l
   rw[yL]at h
   rcases((hx _ rfl).wJ rfl).ny with⟨rfl,a0,he⟩ | ⟨blk,off,cap,f,he,_⟩
   ·cases he; exact key 0 a0 0 rfl h.1 h.2
   ·cases he; exact key _ _ _ rfl h.1 h.2
  ·rename_i e' l ne
   rw[yL]at h
   cases hx _ rfl with
   | xG _ a0=>exact key 0 a0 0 rfl h.1 h.2
   | tight=>exact key _ _ _ rfl h.1 h.2
  ·rw[yL]at h
   cases hx _ rfl
   exact key 0 none 0 rfl h.1 h.2
  ·rw[yL]at h
   cases hx _ rfl
   exact key _ _ _ rfl h.1 h.2
  ·exact absurd h zj
 ·rename_i hu
  split at h
  ·rename_i s hs
   have:=sb hs hx
   subst this
   rw[yL]at h
   obtain⟨rfl,rfl⟩:=h
   have jk:(⟨s.toArray⟩:ByteArray).size=s.length:=rfl
   exact qY.pure hI (by simp only[Builtin.len_,ht,hv,Sem.run_bind,run_underlying hu,Result.andThen_ok,goInt,jk,Sem.run_pure]) RD.int
  ·exact absurd h zj
 ·exact absurd h zj
theorem DO{f:Int→Int→Int}{g:Value→Value→Sem Value}{P:Program}(hg:∀ k k' a b,(g (.int k a) (.int k' b)).run P κ.w=.ok (.int k (f a b)) κ.w){x y:Option D}{v u:Value}{d:Option D}{zL:St}
  (hI:Inv κ) (hx:∀ z,x=some z→RD κ z v) (hy:∀ z,y=some z→RD κ z u) (h:(zU (Ku f [x,y]) κ.st).leads (d,zL)) :
  ∃ r,(g v u).run P κ.w=.ok r κ.w∧zL=κ.st∧∀ d',d=some d'→RD κ d' r:=by
 unfold Ku at h
 simp only at h
 split at h
 ·rename_i k a k' b hk Dj
  have:=uh hk hx
  subst this
  have:=uh Dj hy
  subst this
  cases he:decide (k=k')with
  | false=>rw[he]at h; exact absurd h zj
  | true =>
   rw[he,cond_true,yL]at h
   obtain⟨rfl,rfl⟩:=h
   exact⟨_,hg k k' a b,rfl,fun d' he=>by cases he; exact RD.int⟩
 ·exact absurd h zj
theorem HW{x:Option D}{i:Nat}{v:Value}{d:Option D}{zL:St}(hI:Inv κ)(hx:∀ z,x=some z→RD κ z v)
  (h:(zU (Wm x i) κ.st).leads (d,zL)):qY c.P (do Pure.pure (.value (← Instr.extract v i))) κ d zL:=by
 unfold Wm at h
 split at h
 ·rename_i vs
  obtain⟨y,hy,rfl,rfl⟩:=K1 h
  cases hx _ rfl with
  | gB _ us hl hh =>
   obtain⟨u,h1,h2⟩:=xv.get (⟨hl,hh⟩:xv κ vs us) hy
   exact qY.pure hI (by simp[Instr.extract,h1]) h2
 ·exact absurd h zj
theorem bI:∀ {l:List (Option D)} {ds:List D},jC l=some ds→l=ds.map some
 | [],ds,h=>by simp[jC]at h; subst h; rfl
 | some d::r,ds,h=>by
  simp only[jC]at h
  split at h
  ·rename_i l hl; cases h; simp[bI hl]
  ·cases h
 | none::r,ds,h=>by simp[jC]at h
theorem cW{l:List (Option D)}{ds:List D}{vs:List Value}(h:jC l=some ds)(hl:l.length=vs.length)
  (hr:∀ (i:Nat) (d:D) (v:Value),l[i]? = some (some d)→vs[i]? = some v→RD κ d v):xv κ ds vs:=by
 have:=bI h
 subst this
 refine⟨by simpa using hl,fun i h1 h2=>hr i _ _ ?_ (List.getElem?_eq_getElem h2)⟩
 simp[List.getElem?_eq_getElem h1]
end
end Go.AM
namespace Go.AM
namespace T
variable {α β γ:Type}
theorem cw{t:T α}{x y:α}(h:t.leads x)(k:t.leads y):x=y:=by
 induction t with
 | ret a=>exact h.symm.trans k
 | ite b p q ip iq =>
  rcases h with⟨h1,h⟩ | ⟨h1,h⟩<;>rcases k with⟨k1,k⟩ | ⟨k1,k⟩
  ·exact ip h k
  ·rw[h1]at k1; cases k1
  ·rw[h1]at k1; cases k1
  ·exact iq h k
 | zd p t ih=>exact ih h.2 k.2
 | fail=>exact h.elim
theorem zg{t:T α}{f:α→T β}{x:β}:(t.bind f).leads x↔∃ a,t.leads a∧(f a).leads x:=by
 induction t with
 | ret a=>exact⟨fun h=>⟨a,rfl,h⟩,fun⟨b,h,k⟩=>by cases h; exact k⟩
 | ite b p q ip iq =>
  constructor
  ·rintro(⟨h1,h⟩ | ⟨h1,h⟩)
   ·obtain⟨a,k1,k2⟩:=ip.1 h; exact⟨a,.inl ⟨h1,k1⟩,k2⟩
   ·obtain⟨a,k1,k2⟩:=iq.1 h; exact⟨a,.inr ⟨h1,k1⟩,k2⟩
  ·rintro⟨a,⟨h1,k1⟩ | ⟨h1,k1⟩,k2⟩
   ·exact .inl ⟨h1,ip.2 ⟨a,k1,k2⟩⟩
   ·exact .inr ⟨h1,iq.2 ⟨a,k1,k2⟩⟩
 | zd p t ih =>
  constructor
  ·rintro⟨h1,h⟩; obtain⟨a,k1,k2⟩:=ih.1 h; exact⟨a,⟨h1,k1⟩,k2⟩
  ·rintro⟨a,⟨h1,k1⟩,k2⟩; exact⟨h1,ih.2 ⟨a,k1,k2⟩⟩
 | fail=>exact⟨fun h=>h.elim,fun⟨_,h,_⟩=>h.elim⟩
open Classical in
noncomputable def run:T α→Option α
 | ret a=>some a
 | ite b t e=>bif b then t.run else e.run
 | zd p t=>if p then t.run else none
 | fail=>none
@[simp] theorem z7(a:α):(ret a).run=some a:=rfl
@[simp] theorem zbF:(fail:T α).run=none:=rfl
theorem run_ite(b:Bool)(t e:T α):(ite b t e).run=if b=true then t.run else e.run:=by cases b<;>rfl
@[simp] theorem zA(t e:T α):(ite true t e).run=t.run:=rfl
@[simp] theorem zr(t e:T α):(ite false t e).run=e.run:=rfl
theorem zc{p:Prop}(h:p)(t:T α):(zd p t).run=t.run:=by simp only[run,if_pos h]
theorem za{b:Bool}(h:b=true)(t e:T α):(ite b t e).run=t.run:=by rw[h]; rfl
theorem z8{b:Bool}(h:b=false)(t e:T α):(ite b t e).run=e.run:=by rw[h]; rfl
theorem vX{t:T α}{x:α}:t.run=some x↔t.leads x:=by
 induction t with
 | ret a=>simp[run,leads]
 | ite b p q ip iq=>cases b<;>simp[run,leads,ip,iq]
 | zd p t ih=>by_cases h:p<;>simp[run,leads,h,ih]
 | fail=>simp[run,leads]
theorem run_bind(t:T α)(f:α→T β):(t.bind f).run=t.run.bind fun a=>(f a).run:=by
 induction t with
 | ret a=>rfl
 | ite b p q ip iq=>cases b<;>simp[run,bind,ip,iq]
 | zd p t ih=>by_cases h:p<;>simp[run,bind,h,ih]
 | fail=>rfl
theorem z6{t:T α}{a:α}(h:t.run=some a)(f:α→T β):(t.bind f).run=(f a).run:=by rw[run_bind,h]; rfl
section loop
variable {σ ρ:Type} (r:σ→T (σ⊕ρ))
inductive Iter:Nat→σ→ρ→Prop
 | done {s:σ} {x:ρ} (h:(r s).leads (.inr x)):Iter 0 s x
 | step {n:Nat} {s s':σ} {x:ρ} (h:(r s).leads (.inl s')) (k:Iter n s' x):Iter (n+1) s x
theorem Iter.det{r:σ→T (σ⊕ρ)}{n m:Nat}{s:σ}{x y:ρ}(h:Iter r n s x)(k:Iter r m s y):x=y:=by
 induction h generalizing m y with
 | done h =>
  cases k with
  | done k=>have:=cw h k; cases this; rfl
  | step k _=>have:=cw h k; cases this
 | step h _ ih =>
  cases k with
  | done k=>have:=cw h k; cases this
  | step k k2=>have:=cw h k; cases this; exact ih k2
open Classical in
noncomputable def loop (s:σ):T ρ:=if h:∃ x n,Iter r n s x then .ret h.choose else .fail
theorem iG{s:σ}{x:ρ}:(loop r s).leads x↔∃ n,Iter r n s x:=by
 unfold loop
 split
 ·rename_i h
  obtain⟨n,hn⟩:=h.choose_spec
  constructor
  ·intro hx; cases hx; exact⟨n,hn⟩
  ·rintro⟨m,hm⟩; exact hn.det hm
 ·rename_i h
  exact⟨fun k=>k.elim,fun⟨n,hn⟩=>h ⟨x,n,hn⟩⟩
theorem ud{r:σ→T (σ⊕ρ)}(I:σ→Prop)(μ:σ→Nat)(f:σ→ρ)
  (h:∀ s,I s→(∃ s',(r s).run=some (.inl s')∧I s'∧μ s'<μ s∧f s'=f s)∨(r s).run=some (.inr (f s))) {s:σ} (hs:I s):(loop r s).run=some (f s):=by
 rw[vX,iG]
 generalize hm:μ s=m
 induction m using Nat.strongRecOn generalizing s with
 | _ m ih =>
  rcases h s hs with⟨s',h1,h2,h3,h4⟩ | h1
  ·obtain⟨n,hn⟩:=ih (μ s') (by omega) h2 rfl
   exact⟨n+1,.step (vX.1 h1) (h4▸hn)⟩
  ·exact⟨0,.done (vX.1 h1)⟩
theorem qI{r:σ→T (σ⊕ρ)}{s s':σ}(h:(r s).run=some (.inl s')):(loop r s).run=(loop r s').run:=by
 have h':=vX.1 h
 apply Option.ext
 intro x
 show(loop r s).run=some x↔(loop r s').run=some x
 rw[vX,vX,iG,iG]
 constructor
 ·rintro⟨n,hn⟩
  cases hn with
  | done k=>have:=cw h' k; cases this
  | step k k2=>have:=cw h' k; cases this; exact⟨_,k2⟩
 ·rintro⟨n,hn⟩; exact⟨n+1,.step h' hn⟩
theorem qh{r:σ→T (σ⊕ρ)}{s:σ}{x:ρ}(h:(r s).run=some (.inr x)):(loop r s).run=some x:=by
 rw[vX,iG]; exact⟨0,.done (vX.1 h)⟩
end loop
section fix
variable {σ ρ:Type} (b:(σ→T ρ)→σ→T ρ)
def N5:Nat→σ→T ρ
 | 0,_=>.fail
 | n+1,x=>b (N5 n) x
open Classical in
noncomputable def fix (x:σ):T ρ:=if h:∃ y n,∀ m,n≤m→(N5 b m x).leads y then .ret h.choose else .fail
theorem Wb{x:σ}{y:ρ}:(fix b x).leads y↔∃ n,∀ m,n≤m→(N5 b m x).leads y:=by
 unfold fix
 split
 ·rename_i h
  obtain⟨n,hn⟩:=h.choose_spec
  constructor
  ·intro hx; cases hx; exact⟨n,hn⟩
  ·rintro⟨k,hk⟩; exact cw (hn (max n k) (by omega)) (hk (max n k) (by omega))
 ·rename_i h
  exact⟨fun k=>k.elim,fun⟨n,hn⟩=>h ⟨y,n,hn⟩⟩
theorem kS{b:(σ→T ρ)→σ→T ρ}(I:σ→Prop)(μ:σ→Nat)(f:σ→ρ)
  (h:∀ x,I x→∀ g:σ→T ρ,(∀ y,I y→μ y<μ x→(g y).run=some (f y))→(b g x).run=some (f x)) {x:σ} (hx:I x):(fix b x).run=some (f x):=by
 rw[vX,Wb]
 refine⟨μ x+1,fun m hm => ?_⟩
 induction m generalizing x with
 | zero=>omega
 | succ m ih =>
  rw[← vX]
  refine h x hx (N5 b m) fun y hy qp => ?_
  rw[vX]
  exact ih hy (by omega)
end fix
def fI:T α→Option Prop
 | ret _=>none
 | ite b t e=>match t.fI,e.fI with
  | none,none=>none
  | some p,none=>some (b=true→p)
  | none,some q=>some (b=false→q)
  | some p,some q=>some ((b=true→p)∧(b=false→q))
 | zd p t=>match t.fI with
  | none=>some p
  | some q=>some (p∧q)
 | fail=>some False
def val(d:α):T α→α
 | ret a=>a
 | ite b t e=>bif b then t.val d else e.val d
 | zd _ t=>t.val d
 | fail=>d
def flat(d:α)(t:T α):T α:=match t.fI with
 | none=>.ret (t.val d)
 | some p=>.zd p (.ret (t.val d))
def VK(t:T α):Prop:=match t.fI with | none=>True | some p=>p
theorem UY(d:α)(t:T α)(x:α):t.leads x↔t.VK∧t.val d=x:=by
 induction t with
 | ret a=>simp[leads,VK,fI,val]
 | ite b p q ip iq =>
  cases b
  ·simp only[leads,Bool.false_eq_true,false_and,true_and,false_or,val,cond_false,iq]
   unfold VK
   simp only[fI]
   cases p.fI<;>cases q.fI<;>simp
  ·simp only[leads,true_and,Bool.true_eq_false,false_and,or_false,val,cond_true,ip]
   unfold VK
   simp only[fI]
   cases p.fI<;>cases q.fI<;>simp
 | zd p t ih =>
  simp only[leads,ih,val]
  unfold VK
  simp only[fI]
  cases t.fI<;>simp[and_assoc]
 | fail=>simp[leads,VK,fI]
end T
abbrev zt(x:Int):Int:=IntKind.wrap .i64 x
abbrev zw(x:Int):Int:=IntKind.wrap .u64 x
abbrev qD(x:Int):Int:=IntKind.wrap .u32 x
abbrev Mv(x:Int):Int:=IntKind.wrap .u8 x
def zh(qR off len n:Nat):Prop:=qR=n∧off=0∧len=n
def zi(i:Int)(n:Nat):Prop:=0≤i∧i<(n:Int)
def eB(qR jQ idx n:Nat):Prop:=qR=jQ∧idx<n
def xp(qR jQ off len n m bytes:Nat):Prop:=qR=jQ∧off=0∧len=n∧(n+m)*bytes≤140737488355328
def mM(l h:Int)(n:Nat):Prop:=0≤l∧l≤h∧h≤(n:Int)
def jL(l:zf):Nat→zf
 | 0=>[]
 | c+1=>l++jL l c
def KB(u:Nat):zf:=if h:u<10 then[UInt8.ofNat (48+u)]else KB (u / 10)++[UInt8.ofNat (48+u % 10)]
termination_by u
decreasing_by omega
def pC(n:Int):zf:=if n<0 then 45::KB n.natAbs else KB n.toNat
def OY:zf→zf→Int
 | [],sub=>if sub.isEmpty then 0 else -1
 | b::l,sub=>if sub.isPrefixOf (b::l)then 0 else if OY l sub == -1 then -1 else OY l sub+1
def Pv(s sep:zf):zf×zf×Bool:=if 0≤OY s sep then(s.take (OY s sep).toNat,s.drop ((OY s sep).toNat+sep.length),true)else(s,[],false)
def z0G(s p:zf):zf:=if List.isPrefixOf p s=true then s.drop p.length else s
def z4u(v v' o l n:Nat):Prop:=v=v'∧o+l≤n
def Qy(n m:Int)(bytes:Nat):Prop:=0≤n∧n≤m∧m*bytes≤140737488355328∧m≤140737488355328
def nth{α:Type}(l:List α)(i:Int)(d:α):α:=List.getD l i.toNat d
def xj{α:Type}(l:List α)(i:Nat)(d:α):α:=List.getD l i d
def wA(s:zf)(i:Int):Int:=((List.getD s i.toNat 0).toNat:Int)
def lX(k:IntKind)(x y:Int):Int:=mh k (· &&& ·) x y
def gL(k:IntKind)(x y:Int):Int:=mh k (· ||| ·) x y
def EW(k:IntKind)(x y:Int):Int:=mh k (· ^^^ ·) x y
theorem eI{v v' i n:Nat}:eB v v' i n↔v=v'∧i<n:=Iff.rfl
theorem Rw{l h:Int}{n:Nat}:mM l h n↔0≤l∧l≤h∧h≤(n:Int):=Iff.rfl
def z0R(l:List Int):T (zf×Unit):=.zd ((∀ n∈l,(0:Int)≤n∧n<256)∧List.length l≤140737488355328) (.ret (qO l,()))
end Go.AM
namespace Go.AM
namespace T
variable {α β:Type}
attribute [simp] run_bind
@[simp] theorem yk(b:Bool)(t e:T α):(ite b t e).run=if b=true then t.run else e.run:=run_ite b t e
@[simp] theorem qF{i:Int}{n:Nat}(t:T α)(h1:0≤i)(h2:i<(n:Int)):(zd (zi i n) t).run=t.run:=zc ⟨h1,h2⟩ t
@[simp] theorem jD{v v' i n:Nat}(t:T α)(h1:v=v')(h2:i<n):(zd (eB v v' i n) t).run=t.run:=zc ⟨h1,h2⟩ t
@[simp] theorem qT{v v' o l n m b:Nat}(t:T α)(h1:v=v')(h2:o=0)(h3:l=n)(h4:(n+m)*b≤140737488355328):(zd (xp v v' o l n m b) t).run=t.run:=zc ⟨h1,h2,h3,h4⟩ t
@[simp] theorem ze{v o l n:Nat}(t:T α)(h1:v=n)(h2:o=0)(h3:l=n):(zd (zh v o l n) t).run=t.run:=zc ⟨h1,h2,h3⟩ t
@[simp] theorem nC{l h:Int}{n:Nat}(t:T α)(h1:0≤l)(h2:l≤h)(h3:h≤(n:Int)):(zd (mM l h n) t).run=t.run:=zc ⟨h1,h2,h3⟩ t
@[simp] theorem run_mk{n m:Int}{b:Nat}(t:T α)(h1:0≤n)(h2:n≤m)(h3:m*b≤140737488355328)(h4:m≤140737488355328):(zd (Qy n m b) t).run=t.run:=zc ⟨h1,h2,h3,h4⟩ t
@[simp] theorem z11{v v' o l n:Nat}(t:T α)(h1:v=v')(h2:o+l≤n):(zd (z4u v v' o l n) t).run=t.run:=zc ⟨h1,h2⟩ t
@[simp] theorem zx{a b:Nat}(t:T α)(h:a=b):(zd (a=b) t).run=t.run:=zc h t
@[simp] theorem zD{a b:Nat}(t:T α)(h:a≤b):(zd (a≤b) t).run=t.run:=zc h t
@[simp] theorem j3{a b:Int}(t:T α)(h:a≤b):(zd (a≤b) t).run=t.run:=zc h t
@[simp] theorem vg{a b:Int}(t:T α)(h:a≠b):(zd (a≠b) t).run=t.run:=zc h t
@[simp] theorem zM(t:T α):(zd True t).run=t.run:=zc trivial t
end T
@[simp] theorem zN{x:Int}(h1 : -9223372036854775808≤x)(h2:x≤9223372036854775807):zt x=x:=IntWalk.i64_in x ⟨h1,h2⟩
@[simp] theorem Ri{x:Int}(h1:0≤x)(h2:x≤255):Mv x=x:=IntWalk.u8_in x ⟨h1,h2⟩
@[simp] theorem XR{x:Int}(h1:0≤x)(h2:x≤4294967295):qD x=x:=IntWalk.u32_in x ⟨h1,h2⟩
@[simp] theorem qx{x:Int}(h1:0≤x)(h2:x≤18446744073709551615):zw x=x:=IntWalk.u64_in x ⟨h1,h2⟩
theorem fQ(x:Int):qD x=x % 4294967296:=IntKind.wrap_u32 x
theorem Qn(x:Int):zw x=x % 18446744073709551616:=IntKind.wrap_u64 x
theorem Dv{α:Type}(l:List α)(d:α){i:Int}(h0:0≤i)(hi:i<(l.length:Int)):l.drop i.toNat=nth l i d::l.drop (i+1).toNat:=by
 unfold nth
 have qp:i.toNat<l.length:=by omega
 have e:(i+1).toNat=i.toNat+1:=by omega
 rw[e,List.drop_eq_getElem_cons qp]
 simp[List.getD_eq_getElem?_getD,qp]
theorem PI{α:Type}(l:List α){i:Int}(hi:¬ i<(l.length:Int)):l.drop i.toNat=[]:=List.drop_eq_nil_of_le (by omega)
namespace T
variable {σ ρ α β:Type}
theorem mW{r:σ→T (σ⊕ρ)}(l:List α)(d:α)(e:β→Int→σ)(I:β→List α→Prop)(f:List α→β→ρ)
  (step:∀ (b:β) (x:α) (xs:List α) (i:Int),0≤i→i<(l.length:Int)→nth l i d=x→I b (x::xs) →
   (∃ b',(r (e b i)).run=some (.inl (e b' (i+1)))∧I b' xs∧f xs b'=f (x::xs) b)∨(r (e b i)).run=some (.inr (f (x::xs) b)))
  (done:∀ b,I b []→(r (e b (l.length:Int))).run=some (.inr (f [] b))) {b:β} (hI:I b l):(loop r (e b 0)).run=some (f l b):=by
 have key:∀ (xs:List α) (i:Nat) (b:β),l.drop i=xs→i≤l.length→I b xs→(loop r (e b (i:Int))).run=some (f xs b):=by
  intro xs
  induction xs with
  | nil =>
   intro i b hd hi hb
   have:i=l.length:=by have:=List.drop_eq_nil_iff.1 hd; omega
   subst this
   exact qh (done b hb)
  | cons x xs ih =>
   intro i b hd hi hb
   have qp:i<l.length:=by
    rcases Nat.lt_or_ge i l.length with h | h
    ·exact h
    ·rw[List.drop_eq_nil_of_le h]at hd; cases hd
   have yv:=Dv l d (i:=(i:Int)) (by omega) (by omega)
   have e1:((i:Int)+1).toNat=i+1:=by omega
   simp only[Int.toNat_natCast,e1]at yv
   rw[hd]at yv
   obtain⟨h1,h2⟩:=List.cons.inj yv
   rcases step b x xs i (by omega) (by omega) (by rw[h1]) hb with⟨b',g1,g2,g3⟩ | g1
   ·rw[qI g1,← g3]
    have:=ih (i+1) b' h2.symm (by omega) g2
    simpa using this
   ·exact qh g1
 exact key l 0 b (by simp) (Nat.zero_le _) hI
end T
end Go.AM