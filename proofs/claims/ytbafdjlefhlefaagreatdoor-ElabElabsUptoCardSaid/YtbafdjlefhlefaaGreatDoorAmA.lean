/-
  The abstract machine, part A: texts of our own, the same for each claim.
-/
import Derived.WalkKit
set_option linter.unusedVariables false
namespace Go.AM
theorem bX{a b c d:Prop}(h:a∨b)(f:a→c)(g:b→d):c∨d:=h.elim (fun x=>.inl (f x)) (fun x=>.inr (g x))
abbrev zf:=List UInt8
inductive Ty where
 | int (k:IntKind) | bool | str | sl (e:Ty) | nil | cons (a b:Ty) | expr
 deriving DecidableEq
inductive Expr where
 | mk (kind:Int) (num:Bool×List Int×List Int×Unit) (name:zf) (kids:List Expr)
def Expr.kind:Expr→Int | .mk k _ _ _=>k
def Expr.num:Expr→Bool×List Int×List Int×Unit | .mk _ n _ _=>n
def Expr.name:Expr→zf | .mk _ _ n _=>n
def Expr.kids:Expr→List Expr | .mk _ _ _ l=>l
@[reducible] def den:Ty→Type
 | .int _=>Int
 | .bool=>Bool
 | .str=>zf
 | .sl e=>List (den e)
 | .nil=>Unit
 | .cons a b=>den a×den b
 | .expr=>Expr
abbrev u32:Ty:=.int .u32
abbrev i64:Ty:=.int .i64
abbrev G1:Ty:=.cons .bool (.cons (.sl u32) (.cons (.sl u32) .nil))
abbrev X1:Ty:=.cons i64 (.cons G1 (.cons .str (.cons (.sl .expr) .nil)))
def Expr.MB(e:Expr):den X1:=(e.kind,e.num,e.name,e.kids,())
def Expr.Fy(x:den X1):Expr:=.mk x.1 x.2.1 x.2.2.1 x.2.2.2.1
def Ty.size:Ty→Nat
 | .int _ | .bool | .str | .sl _=>1
 | .nil=>0
 | .cons a b=>a.size+b.size
 | .expr=>6
def Ty.isAgg:Ty→Bool
 | .nil | .cons _ _ | .expr=>true
 | _=>false
def zb:(τ:Ty)→den τ
 | .int _=>(0:Int)
 | .bool=>false
 | .str=>([]:zf)
 | .sl e=>([]:List (den e))
 | .nil=>()
 | .cons a b=>(zb a,zb b)
 | .expr=>.mk 0 (false,[],[],()) [] []
inductive D where
 | zY (τ:Ty) (x:den τ)
 | tight (e:Ty) (l:List (den e)) (ne:Bool)
 | xo | yn | xZ | vQ | vR
 | ptr (b off:Nat)
 | xp (τ:Ty) (x:den τ)
 | uk (b qR:Nat) (e:Ty) (idx off:Nat)
 | ms (b qR:Nat) (e:Ty) (off len:Nat)
 | xk (f:Nat) (cap:List D)
 | agg (cs:List D)
 | gp (vs:List D)
 | iface (t:Nat) (d:D)
 | Zq
 | yi (b T:Nat)
 | du (T:Nat)
inductive yf where
 | dead
 | var (d:D)
 | arr (qR:Nat) (e:Ty) (xs:List (den e))
abbrev St:=List yf
inductive T(α:Type) where
 | ret (a:α)
 | ite (b:Bool) (t e:T α)
 | zd (p:Prop) (t:T α)
 | fail
namespace T
variable {α β:Type}
def bind:T α→(α→T β)→T β
 | ret a,k=>k a
 | ite b t e,k=>ite b (t.bind k) (e.bind k)
 | zd p t,k=>zd p (t.bind k)
 | fail,_=>fail
def WH:Option α→T α
 | some a=>ret a
 | none=>fail
def leads:T α→α→Prop
 | ret a,x=>a=x
 | ite b t e,x=>(b=true∧t.leads x)∨(b=false∧e.leads x)
 | zd p t,x=>p∧t.leads x
 | fail,_=>False
def wp(Q:α→Prop):T α→Prop
 | ret a=>Q a
 | ite b t e=>(b=true→t.wp Q)∧(b=false→e.wp Q)
 | zd p t=>p∧t.wp Q
 | fail=>False
end T
abbrev Fr:=List (Nat×Option D)
def Fr.get:Fr→Nat→Option D
 | [],_=>none
 | (t,d)::r,s=>bif Nat.beq t s then d else Fr.get r s
def Fr.put(fr:Fr)(dst:Option Nat)(d:Option D):Fr :=
 match dst with
 | some t=>(t,d)::fr
 | none=>fr
abbrev Kn:=List (Nat×Option Bool)
def Kn.get:Kn→Nat→Option Bool
 | [],_=>none
 | (t,b)::r,s=>bif Nat.beq t s then b else Kn.get r s
inductive GK where
 | ret (ds:List D)
 | bV (d:D)
inductive Wp where
 | rp (τ:Ty) | im (τ:Ty)
inductive Qh where
 | ty (τ:Ty) | rp (τ:Ty) | xk (f:Nat) (caps:List Wp)
structure Sig where
 params:List Qh
 res:List Ty
structure Ctx where
 P:Program
 xid:Nat
 sig:Nat→List D→Option Sig
 fn:Nat→List D→St→T (GK×St)
 ro:Nat→Bool
 /-- Blocks that a call leaves as they are. -/
 free:Nat→List D→St→List Nat
 PS:∀ (g:Nat) (args:List D) (st:St) (rs:GK) (zL:St) (b:Nat),(fn g args st).leads (rs,zL)→b∈free g args st→zL[b]? = st[b]?
inductive Ex where
 | normal | exit (id:Nat) | ret | bV (d:D)
class tO where
 u8:Nat
def z4V[tO](e:Ty)(t:Nat):Bool:=match e with
 | .int .u8=>Nat.beq t tO.u8
 | _=>true
def z4h[tO](e:Ty)(t:Nat):Prop:=e=.int .u8→t=tO.u8
section ops
variable (c:Ctx)
variable [tO]
def lE(t:Nat):Option Nat:=(c.P.info? t).map (·.size)
def oW(t:Nat):Option Nat:=(c.P.info? t).map (·.bytes)
def Bp(t:Nat):Option Bool:=match c.P.underlying t with | some (.struct _) | some (.array _ _)=>some true | some _=>some false | none=>none
def dV:List (Option Ty)→Option Ty
 | []=>some .nil
 | some a::r=>match dV r with | some b=>some (.cons a b) | none=>none
 | none::_=>none
def HX:Nat→Nat→Option Ty
 | 0,_=>none
 | n+1,t=>bif Nat.beq t c.xid then some .expr else
  match c.P.underlying t with
  | some (.int k)=>some (.int k)
  | some .bool=>some .bool
  | some .string=>some .str
  | some (.slice e)=>match HX n e with | some a=>some (.sl a) | none=>none
  | some (.struct fs)=>dV (fs.toList.map fun f=>HX n f.type)
  | some (.array k e)=>dV (List.replicate k (HX n e))
  | _=>none
def kT(t:Nat)(τ:Ty):Bool:=z4V τ t&&(match lE c t with | some n=>Nat.beq n τ.size | none=>false)&&(match Bp c t with | some b=>b==τ.isAgg | none=>false)
def rY:Value→Option D
 | .int k n=>some (.zY (.int k) n)
 | .bool b=>some (.zY .bool b)
 | .string s=>some (.zY .str s.data.toList)
 | .slice none 0 0=>some .xo
 | .pointer none=>some .yn
 | .nilFunc=>some .vQ
 | .nilIface=>some .xZ
 | .map none=>some .vR
 | _=>none
def jE:List (Option D)→Option (List D)
 | []=>some []
 | some d::r=>match jE r with | some l=>some (d::l) | none=>none
 | none::_=>none
def WL:Value→Option D
 | .agg cs=>match jE (cs.toList.map rY)with | some l=>some (.agg l) | none=>none
 | v=>rY v
def flat:(τ:Ty)→den τ→List D
 | .int k,x=>[.zY (.int k) x]
 | .bool,x=>[.zY .bool x]
 | .str,x=>[.zY .str x]
 | .sl e,x=>[.zY (.sl e) x]
 | .nil,_=>[]
 | .cons a b,x=>flat a x.1++flat b x.2
 | .expr,x=>[.zY i64 x.kind,.zY .bool x.num.1,.zY (.sl u32) x.num.2.1,.zY (.sl u32) x.num.2.2.1,.zY .str x.name,.zY (.sl .expr) x.kids]
def qq:D→List D
 | .zY τ x=>flat τ x
 | .agg cs=>cs
 | .gp _=>[]
 | d=>[d]
def D.isAgg:D→Bool
 | .agg _=>true
 | _=>false
def D.dS:D→Bool
 | .zY τ _=>τ.isAgg
 | .agg _=>true
 | _=>false
def D.z9T:D→Bool
 | .zY τ _=>τ.isAgg
 | .agg _=>true
 | _=>false
def gZ:List D→Option Nat
 | .du T::_=>some T
 | .yi _ T::_=>some T
 | _=>none
def D.typed:D→Option Nat
 | .agg l=>gZ l
 | _=>none
def o8(d d':D):Bool:=match d'.typed with
 | none=>true
 | some T=>match d.typed with | some T'=>Nat.beq T T' | none=>false
def D.uy:D→Bool
 | .gp _=>true
 | _=>false
def vP{a b:Ty}(x:den a):Option (den b):=if h:a=b then some (h▸x)else none
def Dc:Ty→Option (Ty×Nat)
 | .cons e r=>match r with
  | .nil=>some (e,1)
  | r=>match Dc r with
   | some (e',n)=>bif decide (e=e')then some (e,n+1)else none
   | none=>none
 | _=>none
def Bj(e:Ty):(τ:Ty)→den τ→Nat→den e
 | .cons _ _,x,0=>match(vP x.1:Option (den e))with | some y=>y | none=>zb e
 | .cons _ b,x,i+1=>Bj e b x.2 i
 | _,_,_=>zb e
def iv(τ:Ty):D→Option (den τ)
 | .zY σ x=>vP x
 | .tight e l _=>vP (a:=.sl e) l
 | .xo=>match τ with | .sl e=>some ([]:List (den e)) | _=>none
 | _=>none
def jy:(τ:Ty)→List D→Option (den τ×List D)
 | .int k,d::r=>match iv (.int k) d with | some x=>some (x,r) | none=>none
 | .bool,d::r=>match iv .bool d with | some x=>some (x,r) | none=>none
 | .str,d::r=>match iv .str d with | some x=>some (x,r) | none=>none
 | .sl e,d::r=>match iv (.sl e) d with | some x=>some (x,r) | none=>none
 | .nil,r=>some ((),r)
 | .cons a b,r=>match jy a r with
  | some (x,r')=>match jy b r' with | some (y,r'')=>some ((x,y),r'') | none=>none
  | none=>none
 | .expr,[]=>none
 | .expr,d::r=>match iv i64 d with
  | none=>none
  | some k=>match r with
   | d1::d2::d3::d4::d5::r' =>
    match iv .bool d1,iv (.sl u32) d2,iv (.sl u32) d3,iv .str d4,iv (.sl .expr) d5 with
    | some a,some n,some m,some s,some l=>some (Expr.mk k (a,n,m,()) s l,r')
    | _,_,_,_,_=>none
   | _=>none
 | _,[]=>none
def dY(τ:Ty)(d:D):Option (den τ) :=
 match d with
 | .zY σ x=>vP x
 | d=>bif (d.isAgg==τ.isAgg) && !d.uy then match jy τ (qq d)with
   | some (x,[])=>some x
   | _=>none
  else none
def pc(st:St):D→T D
 | .ms b qR e off len=>match st[b]? with
  | some (.arr kv e' xs)=>if h:e'=e then .zd (qR=kv) (.ret (.zY (.sl e) (h▸((xs.take (off+len)).drop off:List (den e')))))else .fail
  | _=>.fail
 | d=>.ret d
def G6(st:St):List D→T (List D)
 | []=>.ret []
 | d::r=>(pc st d).bind fun x=>(G6 st r).bind fun l=>.ret (x::l)
def snap(st:St):D→T D
 | .agg cs=>(G6 st cs).bind fun l=>.ret (.agg l)
 | d=>pc st d
def QO(st:St)(τ:Ty)(d:D):T (den τ):=(snap st d).bind fun x=>.WH (dY τ x)
def J4:D→Bool | .ms .. => true | _=>false
inductive cR where
 | val (t:T (Option D))
 | rd (k:St→T (Option D))
 | wr (k:St→T (Option D×St))
def val(d:D):cR:=.val (.ret (some d))
def z30(d:Option D):cR:=match d with | some d=>.val (.ret (some d)) | none=>.val .fail
def bad:cR:=.val .fail
def z3P(t:Nat):Bool:=match c.P.underlying t with
 | some (.struct fs)=>match fs[0]? with
  | some fd=>match c.P.underlying fd.type with | some (.pointer e)=>Nat.beq e t | _=>false
  | none=>false
 | _=>false
def Rp(t:Nat)(d:D):D:=match d with
 | .agg (.yn::r)=>bif z3P c t then .agg (.du t::r)else .agg (.yn::r)
 | d=>d
def VB(t:Nat):Option D:=match c.P.info? t with
 | some i=>match i.zero with | some z=>(match WL z with | some d=>some (Rp c t d) | none=>none) | none=>none
 | none=>none
def Yt(l:List D)(off n:Nat):Option (List D) :=
 bif Nat.ble (off+n) l.length then some ((l.drop off).take n)else none
def FC(t:Nat)(d:D)(off:Nat):Option D :=
 match Bp c t with
 | some true=>match lE c t with
  | none=>none
  | some n=>bif (Nat.beq off 0)&&Nat.beq n (qq d).length&&d.z9T then some d
   else match Yt (qq d) off n with | some l=>some (.agg l) | none=>none
 | some false=>(qq d)[off]?
 | none=>none
def Cz(t:Nat)(d:D)(off:Nat)(x:D):Option D :=
 match lE c t with
 | none=>none
 | some n=>bif Nat.blt 0 n&&Nat.beq n (qq x).length&&Nat.ble (off+n) (qq d).length then
   bif Nat.beq n (qq d).length then some x
   else some (.agg ((qq d).take off++qq x++(qq d).drop (off+n)))
  else none
def Kt(t:Nat)(a:Option D):cR:=match a with
 | some (.xp τ x)=>bif kT c t τ then val (.zY τ x)else bad
 | some (.ptr b off)=>.rd fun st=>match st[b]? with
  | some (.var d)=>match FC c t d off with | some r=>.ret (some r) | none=>.fail
  | _=>.fail
 | some (.uk b qR e idx off)=>.rd fun st=>match st[b]? with
  | some (.arr kv e' xs)=>bif decide (e'=e)then
    .zd (qR=kv∧idx<xs.length) (match FC c t (.zY e' (xs.getD idx (zb e'))) off with | some r=>.ret (some r) | none=>.fail)
   else .fail
  | _=>.fail
 | _=>bad
def Uu(t:Nat)(a:Option D)(v:Option D):cR:=match a,v with
 | some (.ptr b off),some x=>.wr fun st=>match st[b]? with
  | some (.var d)=>match Cz c t d off x with | some r=>bif o8 d r then .ret (none,st.set b (.var r))else .fail | none=>.fail
  | _=>.fail
 | some (.uk b qR e idx off),some x=>.wr fun st=>match st[b]? with
  | some (.arr kv e' xs)=>bif decide (e'=e)then
    .zd (qR=kv∧idx<xs.length) (match Cz c t (.zY e' (xs.getD idx (zb e'))) off x with
     | some r=>match dY e' r with | some y=>.ret (none,st.set b (.arr kv e' (xs.set idx y))) | none=>.fail
     | none=>.fail)
   else .fail
  | _=>.fail
 | _,_=>bad
def pU:(τ:Ty)→den τ→Nat→Option (D×Nat×Nat)
 | .cons a _,x,0=>some (.xp a x.1,0,a.size)
 | .cons a b,x,n+1=>match pU b x.2 n with | some (d,o,s)=>some (d,a.size+o,s) | none=>none
 | .expr,x,0=>some (.xp i64 x.kind,0,1)
 | .expr,x,1=>some (.xp G1 x.num,1,3)
 | .expr,x,2=>some (.xp .str x.name,4,1)
 | .expr,x,3=>some (.xp (.sl .expr) x.kids,5,1)
 | _,_,_=>none
def Ud(s f:Nat):Option (Nat×Nat):=match c.P.underlying s with
 | some (.struct fs)=>match fs[f]? with
  | some fd=>match lE c fd.type with | some n=>bif Nat.beq n 0 then none else some (fd.offset,n) | none=>none
  | none=>none
 | _=>none
def ry(s f:Nat)(a:Option D):cR:=match Ud c s f with
 | none=>bad
 | some (o,n)=>match a with
  | some (.xp τ x)=>match pU τ x f with
   | some (d,o',n')=>bif Nat.beq o o'&&Nat.beq n n' then val d else bad
   | none=>bad
  | some (.ptr b off)=>val (.ptr b (off+o))
  | some (.uk b qR e idx off)=>val (.uk b qR e idx (off+o))
  | _=>bad
def H7(s f:Nat)(a:Option D):cR:=match c.P.underlying s with
 | some (.struct fs)=>match fs[f]? with
  | some fd=>match a with
   | some d=>z30 (bif d.dS then FC c fd.type d fd.offset else none)
   | none=>bad
  | none=>bad
 | _=>bad
def asInt:Option D→Option (IntKind×Int)
 | some (.zY (.int k) n)=>some (k,n)
 | _=>none
def Jn:Option D→Option zf
 | some (.zY .str s)=>some s
 | _=>none
def asBool:Option D→Option Bool
 | some (.zY .bool b)=>some b
 | _=>none
def lD(t:Nat):Option Nat:=match c.P.underlying t with | some (.slice e)=>some e | _=>none
def z4C(t:Nat):Option (Nat×Nat):=match c.P.underlying t with | some (.array n e)=>some (n,e) | _=>none
def K9(t:Nat)(x:Option D)(i:Int):cR:=match z4C c t,x with
 | some (n,et),some (.xp τ y)=>match Dc τ with
  | some (e,m)=>bif kT c et e&&Nat.beq n m then .val (.zd (0≤i∧i<(n:Int)) (.ret (some (.xp e (Bj e τ y i.toNat)))))else bad
  | none=>bad
 | _,_=>bad
def rQ(t:Nat)(x i:Option D):cR:=match lD c t,asInt i with
 | none,some (_,i)=>K9 c t x i
 | some et,some (_,i)=>match x with
  | some (.zY (.sl e) l)=>bif kT c et e then .val (.zd (0≤i∧i<(List.length l:Int)) (.ret (some (.xp e (List.getD l i.toNat (zb e))))))else bad
  | some (.tight e l _)=>bif kT c et e then .val (.zd (0≤i∧i<(List.length l:Int)) (.ret (some (.xp e (List.getD l i.toNat (zb e))))))else bad
  | some (.ms b qR e off len)=>bif kT c et e then .val (.zd (0≤i∧i<(len:Int)) (.ret (some (.uk b qR e (off+i.toNat) 0))))else bad
  | _=>bad
 | _,_=>bad
def Hh(t:Nat)(x i:Option D):cR:=match asInt i,Jn x,c.P.underlying t with
 | some (_,i),some s,some .string=>.val (.zd (0≤i∧i<(List.length s:Int)) (.ret (some (.zY (.int .u8) ((List.getD s i.toNat 0).toNat:Int)))))
 | _,_,_=>bad
def O9(d:Int):Option (Option D)→Option Int
 | none=>some d
 | some x=>match asInt x with | some (_,i)=>some i | none=>none
def gY(l h:Int)(s:zf):zf:=(s.take h.toNat).drop l.toNat
def uu{e:Ty}(l h:Int)(s:List (den e)):List (den e):=(s.take h.toNat).drop l.toNat
def Hl(t:Nat)(x:Option D)(lo hi mx:Option (Option D)):cR:=match x with
 | some (.zY .str s)=>match c.P.underlying t,mx,O9 0 lo,O9 (List.length s) hi with
  | some .string,none,some l,some h=>.val (.zd (0≤l∧l≤h∧h≤(List.length s:Int)) (.ret (some (.zY .str (gY l h s)))))
  | _,_,_,_=>bad
 | some (.zY (.sl e) s)=>match lD c t,O9 0 lo,O9 (List.length s) hi with
  | some et,some l,some h=>bif kT c et e then match mx with
    | none=>.val (.zd (0≤l∧l≤h∧h≤(List.length s:Int)) (.ret (some (.zY (.sl e) (uu l h s)))))
    | some m=>match asInt m with
     | some (_,m)=>bif hi.isSome then .val (.zd (0≤l∧l≤h∧h=m∧h≤(List.length s:Int)) (.ret (some (.tight e (uu l h s) false))))else bad
     | none=>bad
   else bad
  | _,_,_=>bad
 | some (.tight e s _)=>match lD c t,mx,O9 0 lo,O9 (List.length s) hi with
  | some et,none,some l,some h=>bif kT c et e then .val (.zd (0≤l∧l≤h∧h≤(List.length s:Int)) (.ret (some (.zY (.sl e) (uu l h s)))))else bad
  | _,_,_,_=>bad
 | some (.ms b qR e off len)=>match lD c t,mx,O9 0 lo,O9 len hi with
  | some et,none,some l,some h=>bif kT c et e then .val (.zd (0≤l∧l≤h∧h≤(len:Int)) (.ret (some (.ms b qR e (off+l.toNat) (h.toNat-l.toNat)))))else bad
  | _,_,_,_=>bad
 | _=>bad
def ib(k:IntKind)(n:Int):cR:=val (.zY (.int k) n)
def bb(b:Bool):cR:=val (.zY .bool b)
def nM(k:IntKind)(f:BitVec k.bits→BitVec k.bits→BitVec k.bits)(x y:Int):Int:=k.wrap (f (BitVec.ofInt k.bits x) (BitVec.ofInt k.bits y)).toNat
def xT(k:IntKind)(a b:Int):Int:=k.wrap (a*2 ^ (min b.toNat k.bits))
def qX(k:IntKind)(a b:Int):Int:=Int.fdiv a (2 ^ (min b.toNat k.bits))
def FI(op:BinOp)(k:IntKind)(a b:Int):cR:=match op with
 | .add=>ib k (k.wrap (a+b))
 | .sub=>ib k (k.wrap (a-b))
 | .mul=>ib k (k.wrap (a*b))
 | .quo=>.val (.zd (b≠0) (.ret (some (.zY (.int k) (k.wrap (a.tdiv b))))))
 | .rem=>.val (.zd (b≠0) (.ret (some (.zY (.int k) (a.tmod b)))))
 | .and=>ib k (nM k (· &&& ·) a b)
 | .or=>ib k (nM k (· ||| ·) a b)
 | .xor=>ib k (nM k (· ^^^ ·) a b)
 | .eql=>bb (a==b)
 | .neq=>bb (a != b)
 | .lss=>bb (decide (a<b))
 | .leq=>bb (decide (a≤b))
 | .gtr=>bb (decide (b<a))
 | .geq=>bb (decide (b≤a))
 | _=>bad
def zH(a b:zf):Bool:=a==b
def strLt(a b:zf):Bool:=Op.bytesLess a b
def cat(a b:zf):zf:=a++b
def DZ(op:BinOp)(a b:zf):cR:=match op with
 | .add=>.val (.zd (a.length+b.length≤4611686018427387904) (.ret (some (.zY .str (cat a b)))))
 | .eql=>bb (zH a b)
 | .neq=>bb (!zH a b)
 | .lss=>bb (strLt a b)
 | .leq=>bb (strLt a b||zH a b)
 | .gtr=>bb (!(strLt a b||zH a b))
 | .geq=>bb (!strLt a b)
 | _=>bad
def Ph(op:BinOp)(a b:Bool):cR:=match op with
 | .eql=>bb (a==b)
 | .neq=>bb (!(a==b))
 | _=>bad
def Ur:BinOp→Bool
 | .shl | .shr=>true
 | _=>false
def E3(op:BinOp)(t:Nat)(x y:Option D):cR:=match asInt x,asInt y with
 | some (k,a),some (k',b)=>match op with
  | .shl=>.val (.zd (0≤b) (.ret (some (.zY (.int k) (xT k a b)))))
  | .shr=>.val (.zd (0≤b) (.ret (some (.zY (.int k) (qX k a b)))))
  | op=>bif decide (k=k')then FI op k a b else bad
 | _,_=>match Jn x,Jn y with
  | some a,some b=>bif Ur op then bad else DZ op a b
  | _,_=>match c.P.underlying t,asBool x,asBool y with
   | some .bool,some a,some b=>Ph op a b
   | _,_,_=>bad
def HE(op:BinOp)(t:Nat)(x:Option D):cR:=match c.P.underlying t with
 | some (.interface _)=>match op,x with
  | .eql,some .xZ=>bb true
  | .eql,some (.iface _ _)=>bb false
  | .neq,some .xZ=>bb false
  | .neq,some (.iface _ _)=>bb true
  | _,_=>bad
 | _=>bad
def nX(x:Option D)(at':Nat)(ok:Bool):cR:=match c.P.underlying at' with
 | some (.interface _)=>bad
 | none=>bad
 | some _=>match x with
  | some (.iface t d)=>bif Nat.beq t at'&&ok then val (.gp [d,.zY .bool true])else bad
  | _=>bad
def EW(op:BinOp)(t:Nat)(p:Operand)(x y:Option D):cR:=match p with
 | .const .nilIface=>HE c op t x
 | _=>E3 c op t x y
def PJ(op:UnOp)(x:Option D):cR:=match op with
 | .neg=>match asInt x with | some (k,n)=>ib k (k.wrap (0-n)) | none=>bad
 | .not=>match asBool x with | some b=>bb (!b) | none=>bad
 | .xor=>match asInt x with | some (k,n)=>ib k (nM k (· ^^^ ·) (if k.signed then -1 else k.max) n) | none=>bad
 | _=>bad
def byteOf(n:Int):UInt8:=UInt8.ofNat n.toNat
def Bi(e:Ty):D→Option (List (den e))
 | .zY σ y=>vP (a:=σ) (b:=.sl e) y
 | .tight e' y _=>vP (a:=.sl e') (b:=.sl e) y
 | .xo=>some []
 | _=>none
def qP(l:List Int):zf:=l.map byteOf
def W2(e:Nat)(x:Option D):cR:=match c.P.underlying e,x with
 | some (.int .u8),some d=>.rd fun st=>(pc st d).bind fun y=>match Bi (.int .u8) y with
  | some l=>.ret (some (.zY .str (qP l)))
  | none=>.fail
 | _,_=>bad
def convertOp(s t:Nat)(x:Option D):cR:=match c.P.underlying s,c.P.underlying t with
 | some (.slice e),some .string=>W2 c e x
 | some (.int _),some (.int k)=>match asInt x with | some (_,n)=>ib k (k.wrap n) | none=>bad
 | some .string,some .string=>match Jn x with | some s=>val (.zY .str s) | none=>bad
 | _,_=>bad
def SN(t:Nat)(x:Option D):cR:=match c.P.underlying t with
 | some (.slice _)=>match x with
  | some (.zY (.sl _) l)=>ib .i64 (List.length l)
  | some (.tight _ l _)=>ib .i64 (List.length l)
  | some .xo=>ib .i64 0
  | some (.ms _ _ _ _ len)=>ib .i64 (len:Nat)
  | _=>bad
 | some .string=>match Jn x with
  | some s=>ib .i64 (List.length s)
  | none=>bad
 | _=>bad
def ex(e:Ty){e':Ty}(xs:List (den e')):Option (List (den e)):=vP (a:=.sl e') (b:=.sl e) xs
def mU(e:Ty)(l ys:List (den e))(bytes:Nat)(st:St):T (Option D×St) :=
 .zd ((l.length+ys.length)*bytes≤140737488355328) (.ret (some (.ms st.length (l.length+ys.length) e 0 (l.length+ys.length)),st++[.arr (l.length+ys.length) e (l++ys)]))
def jX(e:Ty)(s:D)(ys:List (den e))(ne:Bool)(bytes:Nat)(st:St):T (Option D×St):=match s with
 | .xo=>bif ne then mU e [] ys bytes st else .ite ys.isEmpty (.ret (some s,st)) (mU e [] ys bytes st)
 | .tight e' l _=>match ex e l with
  | some l=>bif ne then mU e l ys bytes st else .ite ys.isEmpty (.ret (some s,st)) (mU e l ys bytes st)
  | none=>.fail
 | .ms b qR e' off len=>match st[b]? with
  | some (.arr kv e'' xs)=>match ex e xs with
   | some xs=>bif decide (e'=e)then .zd (qR=kv∧off=0∧len=xs.length∧(xs.length+ys.length)*bytes≤140737488355328)
     (.ret (some (.ms b (qR+ys.length) e 0 (len+ys.length)),st.set b (.arr (qR+ys.length) e (xs++ys))))else .fail
   | none=>.fail
  | _=>.fail
 | _=>.fail
def zeroOf(et:Nat)(e:Ty):Option (den e):=match VB c et with | some z=>dY e z | none=>none
def QB(t:Nat)(s x:Option D):cR:=match lD c t with
 | none=>bad
 | some et=>match HX c 20 et,oW c et with
  | some e,some bytes=>bif kT c et e&&Nat.blt 0 e.size&&Nat.blt 0 bytes&&(zeroOf c et e).isSome then match s,x with
    | some s,some x=>.wr fun st=>(pc st x).bind fun x=>match x with
     | .zY _ y=>match(vP y:Option (den (.sl e)))with
      | some ys=>jX e s ys false bytes st
      | none=>.fail
     | .tight _ y ne=>match ex e y with
      | some ys=>jX e s ys ne bytes st
      | none=>.fail
     | .xo=>jX e s [] false bytes st
     | _=>.fail
    | _,_=>bad
   else bad
  | _,_=>bad
def bytesOf(s:zf):List Int:=s.map fun b=>((b.toNat:Nat):Int)
def th(t t':Nat)(s x:Option D):cR:=match lD c t with
 | none=>bad
 | some et=>match HX c 20 et,oW c et,c.P.underlying t' with
  | some (.int .u8),some bytes,some .string=>bif kT c et (.int .u8)&&Nat.blt 0 bytes&&(zeroOf c et (.int .u8)).isSome then match s,x with
    | some s,some (.zY .str l)=>.wr fun st=>jX (.int .u8) s (bytesOf l) false bytes st
    | _,_=>bad
   else bad
  | _,_,_=>bad
def Eo(t:Nat)(n m:Option D):cR:=match lD c t,asInt n,asInt m with
 | some et,some (_,n),some (_,m)=>match HX c 20 et,oW c et with
  | some e,some bytes=>match zeroOf c et e with
   | some z=>bif kT c et e&&Nat.blt 0 e.size then
     .wr fun st=>.zd (0≤n∧n≤m∧m*bytes≤140737488355328∧m≤140737488355328) (.ret (some (.ms st.length n.toNat e 0 n.toNat),st++[.arr n.toNat e (List.replicate n.toNat z)]))
    else bad
   | none=>bad
  | _,_=>bad
 | _,_,_=>bad
def Gm(e:Ty):Nat→List (Nat×Option D)→Option (List (den e))
 | _,[]=>some []
 | i,(j,some d)::r=>bif Nat.beq i j then match dY e d,Gm e (i+1) r with
   | some x,some l=>some (x::l)
   | _,_=>none
  else none
 | _,_=>none
def oL(t n:Nat)(ps:List (Nat×Option D)):cR:=match lD c t with
 | none=>bad
 | some et=>match HX c 20 et with
  | some e=>bif kT c et e&&Nat.beq n ps.length&&Nat.ble n 1000&&Nat.ble e.size 100&&(zeroOf c et e).isSome then match Gm e 0 ps with
    | some l=>bif Nat.beq n 0&&Nat.blt 0 e.size then .wr fun st=>.ret (some (.ms st.length 0 e 0 0),st++[.arr 0 e []])else val (.tight e l (!Nat.beq n 0))
    | none=>bad
   else bad
  | none=>bad
def ir(places:List (Nat×Nat)):List (Nat×Option D)→List D→Option (List D)
 | [],cells=>some cells
 | (i,some d)::r,cells=>match places[i]? with
  | some (off,n)=>bif !d.uy&&Nat.beq n (qq d).length&&Nat.ble (off+n) cells.length then
     ir places r (cells.take off++qq d++cells.drop (off+n))else none
  | none=>none
 | _,_=>none
def GZ(t:Nat)(ps:List (Nat×Option D)):cR:=match c.P.underlying t with
 | some (.struct fs)=>match VB c t,fs.toList.mapM (fun f=>(c.P.info? f.type).map fun i=>(f.offset,i.size))with
  | some (.agg z),some places=>match ir places ps z with
   | some l=>val (.agg l)
   | none=>bad
  | _,_=>bad
 | some (.array k e)=>match VB c t,c.P.info? e with
  | some (.agg z),some ie=>match ir ((List.range k).map fun i=>(i*ie.size,ie.size)) ps z with
   | some l=>val (.agg l)
   | none=>bad
  | _,_=>bad
 | _=>bad
def Wd(x:Option D)(i:Nat):cR:=match x with
 | some (.gp vs)=>z30 vs[i]?
 | _=>bad
def gf:List D→D
 | [d]=>d
 | ds=>.gp ds
def Ty.scalar:Ty→Bool
 | .int _ | .bool | .str=>true
 | .cons a b=>a.scalar&&b.scalar
 | .nil=>true
 | _=>false
def te:D→Bool
 | .zY τ _=>τ.scalar
 | _=>false
def pq(st:St)(τ:Ty):D→T D
 | .xp _ x=>match(vP x:Option (den τ))with | some y=>.ret (.xp τ y) | none=>.fail
 | .ptr b off=>match st[b]? with
  | some (.var d)=>match bif Nat.beq off 0 then dY τ d else none with | some y=>.ret (.xp τ y) | none=>.fail
  | _=>.fail
 | _=>.fail
def rW(st:St):Wp→D→T D
 | .im τ,d=>(QO st τ d).bind fun x=>.ret (.zY τ x)
 | .rp τ,d=>pq st τ d
def cB(st:St):List Wp→List D→T (List D)
 | [],[]=>.ret []
 | p::r,d::ds=>(rW st p d).bind fun x=>(cB st r ds).bind fun l=>.ret (x::l)
 | _,_=>.fail
def Dw(st:St):Qh→D→T D
 | .ty τ,d=>(QO st τ d).bind fun x=>.ret (.zY τ x)
 | .rp τ,d=>pq st τ d
 | .xk f caps,.xk f' l=>bif Nat.beq f f' then(cB st caps l).bind fun l=>.ret (.xk f l)else .fail
 | _,_=>.fail
def pB(st:St):List Qh→List D→T (List D)
 | [],[]=>.ret []
 | p::r,d::ds=>(Dw st p d).bind fun x=>(pB st r ds).bind fun l=>.ret (x::l)
 | _,_=>.fail
def z4I:D→Bool | .ptr .. => true | _=>false
def Ky:D→Bool
 | .agg cs=>cs.any J4
 | .xk _ l=>l.any fun d=>J4 d||z4I d
 | .ptr .. => true
 | d=>J4 d
def T6(r:GK×St):T (Option D):=match r with
 | (.ret ds,[])=>.ret (some (gf ds))
 | _=>.fail
def sR(r:GK×St):T (Option D):=match r with
 | (.ret ds,[])=>bif ds.all te then .ret (some (gf ds))else .fail
 | _=>.fail
def bJ(g:Nat)(s:Sig)(args:List D):cR :=
 bif !(args.any Ky)then .val ((pB [] s.params args).bind fun l=>(c.fn g l []).bind T6)
 else .rd fun st=>(pB st s.params args).bind fun l=>(c.fn g l []).bind sR
def tf(g:Nat)(args:List D):cR:=.wr fun st=>(c.fn g args st).bind fun r=>match r.1 with
 | .ret ds=>.ret (some (gf ds),r.2)
 | .bV _=>.fail
def dO(g:Nat):Nat:=bif Nat.ble 1000000 g then g % 1000000 else g
def c6{α:Type}(g:Nat)(l caps:List α):List α:=bif Nat.ble 1000000 g then caps++l else l++caps
def dQ(f:Option D)(args:List (Option D)):cR:=match f,jE args with
 | some (.xk g caps),some l=>match c.sig (dO g) (c6 g l caps)with
  | some s=>bJ c (dO g) s (c6 g l caps)
  | none=>tf c (dO g) (c6 g l caps)
 | _,_=>bad
def wN(a b:Int):Int:=if b<a then b else a
def w6(a b:Int):Int:=if a<b then b else a
def J9(f:Int→Int→Int)(args:List (Option D)):cR:=match args with
 | [x,y]=>match asInt x,asInt y with
  | some (k,a),some (k',b)=>bif decide (k=k')then ib k (f a b)else bad
  | _,_=>bad
 | _=>bad
def yc{α:Type}(off len:Nat)(xs l:List α):List α:=xs.take off++l.take len++xs.drop (off+min len l.length)
def Pj(k:IntKind)(b qR off len:Nat)(l:List Int)(st:St):T (Option D×St):=match st[b]? with
 | some (.arr kv e' xs)=>match ex (.int k) xs with
  | some xs=>.zd (qR=kv∧off+len≤List.length xs) (.ret (some (.zY i64 ((min len l.length:Nat):Int)),st.set b (.arr kv (.int k) (yc off len xs l))))
  | none=>.fail
 | _=>.fail
def Fz(t:Nat)(s x:Option D):cR:=match lD c t with
 | some et=>match c.P.underlying et,lE c et,s,x with
  | some (.int k),some 1,some (.ms b qR (.int k') off len),some d=>bif decide (k'=k)then .wr fun st=>(pc st d).bind fun y=>match Bi (.int k) y with
    | some l=>Pj k b qR off len l st
    | none=>.fail
   else bad
  | _,_,_,_=>bad
 | none=>bad
def mT(b:Builtin)(ts:List Nat)(args:List (Option D)):cR:=match b,ts,args with
 | .len,t::_,x::_=>SN c t x
 | .append,[t,t'],[s,x]=>bif Nat.beq t t' then QB c t s x else th c t t' s x
 | .copy,[t,_],[s,x]=>Fz c t s x
 | .min,_,args=>J9 wN args
 | .max,_,args=>J9 w6 args
 | _,_,_=>bad
def yg(fr:Fr):Operand→Option D
 | .tmp t=>fr.get t
 | .const v=>WL v
 | .global _=>none
 | .func f=>bif Nat.blt f 1000000 then some (.xk f [])else none
def ZN(x:Option D):cR:=match x with
 | some (.ptr b o)=>val (.ptr b o)
 | some (.xp τ x)=>val (.xp τ x)
 | some (.uk b v e i o)=>val (.uk b v e i o)
 | some (.xk f l)=>val (.xk f l)
 | _=>bad
def DS(x a b:Option D):cR:=match asBool x with
 | some x=>.val (.ite x (.ret a) (.ret b))
 | none=>bad
def ss(t:Nat)(x:Option D):cR:=match c.P.underlying t with
 | some (.interface _) | none=>bad
 | some _=>match x with | some d=>val (.iface t d) | none=>bad
def z02(x:Option D):cR:=match x with
 | some d=>bif d.uy||d.typed.isSome then bad else .wr fun st=>.ret (some (.ptr st.length 0),st++[.var d])
 | none=>bad
def TO(t:Nat)(x:Option D):cR:=match x with
 | some (.zY τ x)=>val (.xp τ x)
 | some d=>match HX c 20 t with
  | some τ=>match dY τ d with | some x=>val (.xp τ x) | none=>bad
  | none=>bad
 | none=>bad
def z9l:Option Nat→Bool
 | some s=>c.ro s
 | none=>false
def Pp(t:Nat)(dst:Option Nat)(x:Option D):cR:=bif z9l c dst then TO c t x else z02 x
def oa(t:Nat):cR:=match VB c t with
 | some d=>.wr fun st=>.ret (some (.ptr st.length 0),st++[.var d])
 | none=>bad
def xa(ρ:Operand→Option D)(o:Oper):cR:=match o.op with
 | .move x | .assign x=>.val (.ret (ρ x))
 | .pick x a b=>DS (ρ x) (ρ a) (ρ b)
 | .alloc t=>oa c t
 | .box t x=>Pp c t o.dst (ρ x)
 | .load t a=>Kt c t (ρ a)
 | .store t a v=>Uu c t (ρ a) (ρ v)
 | .nilCheck x=>ZN (ρ x)
 | .binOp op t x y _=>EW c op t y (ρ x) (ρ y)
 | .typeAssert x _ t ok=>nX c (ρ x) t ok
 | .unOp op _ x=>PJ op (ρ x)
 | .convert s t x=>convertOp c s t (ρ x)
 | .makeInterface t x=>ss c t (ρ x)
 | .makeFunc (.func f) first cap=>bif Nat.beq first.size 0&&Nat.blt f 1000000 then match jE (cap.toList.map ρ)with | some l=>val (.xk f l) | none=>bad
   else bif Nat.beq cap.size 0&&Nat.blt f 1000000 then match jE (first.toList.map ρ)with | some l=>val (.xk (f+1000000) l) | none=>bad else bad
 | .makeSlice t l m=>Eo c t (ρ l) (ρ m)
 | .slice t x lo hi mx=>Hl c t (ρ x) (lo.map ρ) (hi.map ρ) (mx.map ρ)
 | .fieldAddr s x f=>ry c s f (ρ x)
 | .field s x f=>H7 c s f (ρ x)
 | .indexAddr t x i=>rQ c t (ρ x) (ρ i)
 | .index t x i=>Hh c t (ρ x) (ρ i)
 | .extract x i=>Wd (ρ x) i
 | .build t ps=>GZ c t (ps.toList.map fun p=>(p.1,ρ p.2))
 | .buildSlice t n ps=>oL c t n (ps.toList.map fun p=>(p.1,ρ p.2))
 | .call cl=>match cl.callee with
  | .builtin b=>mT c b cl.argTypes.toList (cl.args.toList.map ρ)
  | .value f=>dQ c (ρ f) (cl.args.toList.map ρ)
  | .invoke _ _=>bad
 | _=>bad
def zS:cR→St→T (Option D×St)
 | .val t,st=>t.bind fun d=>.ret (d,st)
 | .rd k,st=>(k st).bind fun d=>.ret (d,st)
 | .wr k,st=>k st
end ops
end Go.AM
namespace Go.AM
def cR.kind:cR→Nat
 | .val _=>0
 | .rd _=>1
 | .wr _=>2
def uO(ops:Array Oper)(j:Nat):Option Nat:=match ops[j]? with | some o=>o.dst | none=>none
def Na:D:=.gp []
def vJ(n:Nat):Option Nat→Bool
 | some t=>Nat.blt t n
 | none=>true
section
variable (c:Ctx)
variable [tO]
def eB(kn:Kn):Operand→Option Bool
 | .tmp t=>kn.get t
 | .const (.bool b)=>some b
 | _=>none
def Jl(kn:Kn):Op→Option Bool
 | .move x | .assign x=>eB kn x
 | .pick x a b=>match eB kn x with
  | some true=>eB kn a
  | some false=>eB kn b
  | none=>none
 | _=>none
def pd(kn:Kn)(fr:Fr)(o:Oper):cR:=match o.op with
 | .pick x a b=>match eB kn x with
  | some true=>.val (.ret (yg fr a))
  | some false=>.val (.ret (yg fr b))
  | none=>xa c (yg fr) o
 | _=>xa c (yg fr) o
def KO(kn:Kn)(dst:Option Nat)(b:Option Bool):Kn:=match dst with | some t=>(t,b)::kn | none=>kn
inductive RK where
 | z (k:Nat) | rd (b:Nat) | wr (free:List Nat) | up (b:Nat)
def RK.base:RK→Nat
 | .z k=>k
 | .rd _=>1
 | .wr _=>2
 | .up _=>2
def others(n:Nat)(l:List Nat):List Nat:=(List.range n).filter fun b => !(l.any (Nat.beq b))
def z5B(d:Option D):Option Nat:=match d with
 | some d=>match d with
  | .ptr b _=>some b
  | .uk b _ _ _ _=>some b
  | _=>none
 | none=>none
def I1(bi:Builtin)(l:List (Option D)):RK:=match bi with
 | .append=>match l with | [some (.ms b _ _ _ _),some x]=>bif J4 x then .z 2 else .up b | _=>.z 2
 | _=>.z 2
def wx(ρ:Operand→Option D)(st:St)(o:Oper):RK:=match(xa c ρ o).kind with
 | 1=>match o.op with
  | .load _ a=>match z5B (ρ a)with | some b=>.rd b | none=>.z 1
  | _=>.z 1
 | 2=>match o.op with
  | .alloc _=>.wr (others st.length [])
  | .store _ a _=>match z5B (ρ a)with | some b=>.up b | none=>.z 2
  | .call cl=>match cl.callee with
   | .value f=>match ρ f,jE (cl.args.toList.map ρ)with | some (.xk g caps),some l=>.wr (c.free (dO g) (c6 g l caps) st) | _,_=>.z 2
   | .builtin bi=>I1 bi (cl.args.toList.map ρ)
   | _=>.z 2
  | _=>.z 2
 | k=>.z k
structure fk where
 fr:Fr
 kn:Kn
 st:St
 ks:List Nat      -- kinds of what has run,the last first
 bk:List RK
def bK(n:Nat)(o:Oper)(s:fk):T fk :=
 bif vJ n o.dst then
  let cl:=pd c s.kn s.fr o
  (zS cl s.st).bind fun r=>.ret ⟨s.fr.put o.dst r.1,KO s.kn o.dst (Jl s.kn o.op),r.2,cl.kind::s.ks,wx c (yg s.fr) s.st o::s.bk⟩
 else .fail
def jx(o:Oper)(s:fk):fk:=⟨s.fr.put o.dst (some Na),KO s.kn o.dst none,s.st,0::s.ks,.z 0::s.bk⟩
def fk.bU(s:fk)(t:Nat)(b:Bool):fk:={ s with kn:=(t,some b)::s.kn }
def stepG(n:Nat)(ops:Array Oper)(o:Oper)(s:fk):T fk:=match o.guard with
 | none=>bK c n o s
 | some (j,want)=>match uO ops j with
  | none=>.fail
  | some t=>match s.kn.get t with
   | some b=>bif b==want then bK c n o s else bif vJ n o.dst then .ret (jx o s)else .fail
   | none=>match s.fr.get t with
    | some (.zY .bool x)=>bif vJ n o.dst then
      .ite x (bif want then bK c n o (s.bU t true)else .ret (jx o (s.bU t true)))
          (bif want then .ret (jx o (s.bU t false))else bK c n o (s.bU t false))
     else .fail
    | some (.gp [])=>bif vJ n o.dst then .ret (jx o s)else .fail
    | _=>.fail
def oV(n:Nat)(ops:Array Oper):List Oper→fk→T fk
 | [],s=>.ret s
 | o::l,s=>(stepG c n ops o s).bind fun s'=>oV n ops l s'
def tmpsOf(ops:Array Oper)(o:Oper):List Nat :=
 (match o.dst with | some d=>[d] | none=>[]) ++
 (match o.guard with | some (j,_)=>(match uO ops j with | some s=>[s] | none=>[]) | none=>[]) ++
 o.op.operands.toList.filterMap fun | .tmp t=>some t | _=>none
def xD(l:List Oper):List Nat→List Nat
 | acc=>match l with
  | []=>acc
  | o::r=>xD r (acc++[o.after.toList.foldl (fun s e=>bif Region.binds .any e then s ||| 2 ^ e.on ||| acc.getD e.on 0 else s) 0])
def ordered(bs:List Nat)(i j:Nat):Bool:=Nat.testBit (bs.getD j 0) i
def ux(k l:Nat):Bool:=(Nat.beq k 2 && !Nat.beq l 0)||(Nat.beq l 2 && !Nat.beq k 0)
def EA{K:Type}(cl:K→K→Bool)(bs:List Nat)(xs:List (Nat×Option Nat×List Nat×K))(j:Nat)(dj:Option Nat)(tj:List Nat)(kj:K):Bool :=
 xs.all fun x=>ordered bs x.1 j||(!(match x.2.1 with | some d=>tj.contains d | none=>false) && !(match dj with | some d=>x.2.2.1.contains d | none=>false) && !cl x.2.2.2 kj)
def nZ{K:Type}(cl:K→K→Bool)(ops:Array Oper)(bs:List Nat):List Oper→List K→Nat→List (Nat×Option Nat×List Nat×K)→Bool
 | [],_,_,_=>true
 | o::l,k::ks,j,xs=>let tj:=tmpsOf ops o; EA cl bs xs j o.dst tj k&&nZ cl ops bs l ks (j+1) ((j,o.dst,tj,k)::xs)
 | _,_,_,_=>false
def bF:List Oper→Nat→Bool
 | [],_=>true
 | o::l,j=>o.after.toList.all (fun e => !Region.binds .any e||Nat.blt e.on j)&&bF l (j+1)
def Ii(ops:Array Oper)(ks:List Nat):Bool :=
 let l:=ops.toList
 bF l 0&&nZ ux ops (xD l []) l ks 0 []
def Ww(o:Oper):Bool:=(match o.op with | .alloc _=>true | _=>false)&&o.guard.isNone&&o.dst.isSome
def Jt:List Oper→List Nat→List Nat
 | o::l,k::ks=>(bif Ww o then 3 else k)::Jt l ks
 | _,_=>[]
def rR(k l:Nat):Bool:=bif Nat.beq k 3&&Nat.beq l 3 then false else ux (bif Nat.beq k 3 then 2 else k) (bif Nat.beq l 3 then 2 else l)
def JU:List Oper→Nat→List Nat
 | [],_=>[]
 | o::l,i=>bif Ww o then i::JU l (i+1)else JU l (i+1)
def Dv(bs al:List Nat)(n:Nat):Bool:=(List.range n).all fun j => !(al.any fun p=>ordered bs p j)||al.all fun p=>ordered bs p j
def Ic(ops:Array Oper)(ks:List Nat):Bool :=
 let l:=ops.toList
 bF l 0&&(ks.all fun k=>Nat.ble k 2)&&nZ rR ops (xD l []) l (Jt l ks) 0 []&&Dv (xD l []) (JU l 0) l.length
def uq:RK→RK→Bool
 | .rd b,.wr A => !(A.any (Nat.beq b))
 | .wr A,.rd b => !(A.any (Nat.beq b))
 | .rd b,.up a=>Nat.beq a b
 | .up a,.rd b=>Nat.beq a b
 | .up a,.up b=>Nat.beq a b
 | x,y=>ux x.base y.base
def LW(ops:Array Oper)(ks:List RK):Bool :=
 let l:=ops.toList
 bF l 0&&nZ uq ops (xD l []) l ks 0 []
def Q2(ops:Array Oper)(ks:List Nat)(bk:List RK):Bool:=Ii ops ks||Ic ops ks||LW ops bk
def cd(n:Nat)(ops:Array Oper)(draw:Bool)(fr:Fr)(kn:Kn)(st:St):T fk :=
 (oV c n ops ops.toList ⟨fr,kn,st,[],[]⟩).bind fun s=>bif !draw||Q2 ops s.ks.reverse s.bk.reverse then .ret s else .fail
structure zdx where
 ex:Ex
 fr:Fr
 kn:Kn
 st:St
structure zge where
 ex:Ex
 out:List (Nat×D)
 st:St
abbrev zar:=Nat→Fr→St→T zge
def z5o(l:List (Nat×D)):Fr:=l.map fun p=>(p.1,some p.2)
def ev(n:Nat)(L:zar):Code→Fr→Kn→St→T zdx
 | .skip,fr,kn,st=>.ret ⟨.normal,fr,kn,st⟩
 | .region _ ops draw,fr,kn,st=>(cd c n ops draw fr kn st).bind fun s=>.ret ⟨.normal,s.fr,s.kn,s.st⟩
 | .seq a b,fr,kn,st=>(ev n L a fr kn st).bind fun r=>match r.ex with
  | .normal=>ev n L b r.fr r.kn r.st
  | _=>.ret r
 | .cond x a b,fr,kn,st=>match eB kn x with
  | some true=>ev n L a fr kn st
  | some false=>ev n L b fr kn st
  | none=>match x with
   | .tmp t=>match fr.get t with
    | some (.zY .bool v)=>.ite v (ev n L a fr ((t,some true)::kn) st) (ev n L b fr ((t,some false)::kn) st)
    | _=>.fail
   | _=>.fail
 | .block id (.loop _),fr,_,st=>(L id fr st).bind fun r=>match r.ex with
   | .exit id'=>bif Nat.beq id' id then .ret ⟨.normal,z5o r.out,[],r.st⟩else .ret ⟨.exit id',z5o r.out,[],r.st⟩
   | .normal=>.fail
   | x=>.ret ⟨x,z5o r.out,[],r.st⟩
 | .block id a,fr,kn,st=>(ev n L a fr kn st).bind fun r=>match r.ex with
  | .exit id'=>bif Nat.beq id' id then .ret { r with ex:=.normal } else .ret r
  | _=>.ret r
 | .exit id,fr,kn,st=>.ret ⟨.exit id,fr,kn,st⟩
 | .ret,fr,kn,st=>.ret ⟨.ret,fr,kn,st⟩
 | _,_,_,_=>.fail
def wG:List D→Nat→Fr
 | [],_=>[]
 | d::r,i=>(i,some d)::wG r (i+1)
def dx(fr:Fr)(st:St):List ResultVar→T (List D)
 | []=>.ret []
 | .tmp t::r=>match fr.get t with
  | some d=>(dx fr st r).bind fun l=>.ret (d::l)
  | none=>.fail
 | .cell a t::r=>match fr.get a with
  | some (.ptr b off)=>match st[b]? with
   | some (.var d)=>match FC c t d off with
    | some x=>(dx fr st r).bind fun l=>.ret (x::l)
    | none=>.fail
   | _=>.fail
  | _=>.fail
def vH(n:Nat):D→Bool
 | .ptr b _=>Nat.blt b n
 | .yi b _=>Nat.blt b n
 | .uk b .. => Nat.blt b n
 | .ms b .. => Nat.blt b n
 | .xk .. | .agg _ | .gp _ | .iface .. => false
 | _=>true
def bH(n:Nat):D→Bool
 | .xk _ l=>l.all (vH n)
 | .agg l=>l.all (vH n)
 | .iface _ d=>vH n d
 | d=>vH n d
def HA(n:Nat):yf→Bool
 | .var d=>bH n d
 | _=>true
end
end Go.AM
namespace Go.AM
open Go.RowKit
inductive Rc(w:World)(ok:Nat→Prop):(τ:Ty)→den τ→List Value→Prop
 | int (k:IntKind) (n:Int):Rc w ok (.int k) n [.int k n]
 | bool (b:Bool):Rc w ok .bool b [.bool b]
 | str (s:zf):Rc w ok .str s [.string ⟨s.toArray⟩]
 | iE (e:Ty) (a:Option Addr):Rc w ok (.sl e) ([]:List (den e)) [.slice a 0 0]
 | sl (e:Ty) (l:List (den e)) (blk off cap:Nat) (f:Nat→List Value) (we:ok blk) (wD:l.length≤cap)
   (h:∀ i (hi:i<l.length),Rc w ok e l[i] (f i))
   (hc:∀ i,i<l.length→∀ j v,(f i)[j]? = some v→w.cell? ⟨blk,off+i*e.size+j,none⟩=some v) :
   Rc w ok (.sl e) l [.slice (some ⟨blk,off,none⟩) l.length cap]
 | nil:Rc w ok .nil () []
 | cons (a b:Ty) (x:den a) (y:den b) (c1 c2:List Value) (h1:Rc w ok a x c1) (h2:Rc w ok b y c2):Rc w ok (.cons a b) (x,y) (c1++c2)
 | expr (k:Int) (n:den G1) (s:zf) (l:List Expr) (cs:List Value) (h:Rc w ok X1 (k,n,s,l,()) cs):Rc w ok .expr (.mk k n s l) cs
def Ed(w w':World)(ok VA:Nat→Prop):Prop:=∀ k,ok k→VA k∧w'.heap[k]? = w.heap[k]?
theorem cf{w w':World}{a:Addr}(h:w'.heap[a.block]? = w.heap[a.block]?):w'.cell? a=w.cell? a:=by simp[World.cell?,h]
section
variable {w w':World} {ok VA:Nat→Prop}
theorem Rc.mono{τ:Ty}{x:den τ}{cs:List Value}(hs:Ed w w' ok VA)(h:Rc w ok τ x cs):Rc w' VA τ x cs:=by
 induction h with
 | int k n=>exact .int k n
 | bool b=>exact .bool b
 | str s=>exact .str s
 | iE e a=>exact .iE e a
 | sl e l blk off cap f we wD h hc ih=>exact .sl e l blk off cap f (hs _ we).1 wD ih fun i hi j v hv=>by rw[cf (hs _ we).2]; exact hc i hi j v hv
 | nil=>exact .nil
 | cons a b x y c1 c2 h1 h2 i1 i2=>exact .cons a b x y c1 c2 i1 i2
 | expr k n s l cs h ih=>exact .expr k n s l cs ih
theorem Rc.len{τ:Ty}{x:den τ}{cs:List Value}(h:Rc w ok τ x cs):cs.length=τ.size:=by
 induction h with
 | cons a b x y c1 c2 h1 h2 i1 i2=>simp[Ty.size,i1,i2]
 | expr k n s l cs h ih=>simpa[Ty.size]using ih
 | _=>simp[Ty.size]
theorem Rc.one{τ:Ty}{x:den τ}{cs:List Value}(h:Rc w ok τ x cs):∀ v∈cs,v.oneCell'=true:=by
 induction h with
 | cons a b x y c1 c2 h1 h2 i1 i2=>intro v hv; rcases List.mem_append.1 hv with h | h; exact i1 v h; exact i2 v h
 | expr k n s l cs h ih=>exact ih
 | _=>intro v hv; simp at hv; try (subst hv; rfl)
theorem Rc.eJ{k:IntKind}{n:Int}{cs:List Value}(h:Rc w ok (.int k) n cs):cs=[.int k n]:=by cases h; rfl
theorem Rc.bG{n:Bool}{cs:List Value}(h:Rc w ok .bool n cs):cs=[.bool n]:=by cases h; rfl
theorem Rc.iU{n:zf}{cs:List Value}(h:Rc w ok .str n cs):cs=[.string ⟨n.toArray⟩]:=by cases h; rfl
theorem Rc.cons_inv{a b:Ty}{x:den (.cons a b)}{cs:List Value}(h:Rc w ok (.cons a b) x cs):∃ c1 c2,cs=c1++c2∧Rc w ok a x.1 c1∧Rc w ok b x.2 c2:=by
 cases h with | cons _ _ x y c1 c2 h1 h2=>exact⟨c1,c2,rfl,h1,h2⟩
theorem Rc.qF{x:den .nil}{cs:List Value}(h:Rc w ok .nil x cs):cs=[]:=by cases h; rfl
theorem Rc.DA{x:Expr}{cs:List Value}(h:Rc w ok .expr x cs):Rc w ok X1 x.MB cs:=by cases h with | expr k n s l cs h=>exact h
theorem Rc.om{e:Ty}{l:List (den e)}{cs:List Value}(h:Rc w ok (.sl e) l cs):(l=[]∧∃ a,cs=[.slice a 0 0]) ∨
  ∃ (blk off cap:Nat) (f:Nat→List Value),cs=[.slice (some ⟨blk,off,none⟩) l.length cap]∧ok blk∧l.length≤cap∧(∀ i (hi:i<l.length),Rc w ok e l[i] (f i)) ∧
   (∀ i,i<l.length→∀ j v,(f i)[j]? = some v→w.cell? ⟨blk,off+i*e.size+j,none⟩=some v):=by
 cases h with
 | iE _ a=>exact .inl ⟨rfl,a,rfl⟩
 | sl _ _ blk off cap f we wD h hc=>exact .inr ⟨blk,off,cap,f,rfl,we,wD,h,hc⟩
end
def pk(τ:Ty)(cs:List Value):Value:=if τ.isAgg then .agg cs.toArray else cs.headD undef
structure KS where
 w:World
 ok:Nat→Prop
 ph:List (Option (Nat×Nat))
 st:St
def Ia(ph:List (Option (Nat×Nat)))(b zgL:Nat)(e:Ty)(off len:Nat)(v:Value):Prop :=
 off+len≤zgL∧((len=0∧off=0∧v=.slice none 0 0∧ph[b]? = some none) ∨
  ∃ (blk n o cap:Nat),ph[b]? = some (some (blk,n))∧v=.slice (some ⟨blk,o,none⟩) len cap∧len≤cap∧(off+cap)*e.size≤n∧(cap=0∨o=off*e.size))
def Old(st:St)(b qR:Nat):Prop:=st[b]? = some .dead∨∃ (v0:Nat) (e0:Ty) (pj:List (den e0)),st[b]? = some (.arr v0 e0 pj)∧qR≤v0
def D.one:D→Bool
 | .zY τ _ => !τ.isAgg
 | .agg _ | .gp _=>false
 | _=>true
def Qt(f:Nat)(vs:List Value):Value:=bif Nat.ble 1000000 f then .func (.func (f % 1000000)) vs.toArray #[]else .func (.func f) #[] vs.toArray
theorem M8{f:Nat}(h:Nat.blt f 1000000=true)(vs:List Value):Qt f vs=.func (.func f) #[] vs.toArray:=by
 have:Nat.ble 1000000 f=false:=by
  cases hb:Nat.ble 1000000 f with
  | false=>rfl
  | true=>have h1:=Nat.le_of_ble_eq_true hb; have h2:=Nat.le_of_ble_eq_true h; omega
 unfold Qt; rw[this]; rfl
theorem EP{f:Nat}(h:Nat.blt f 1000000=true)(vs:List Value):Qt (f+1000000) vs=.func (.func f) vs.toArray #[]:=by
 have h1:Nat.ble 1000000 (f+1000000)=true:=Nat.ble_eq_true_of_le (by omega)
 have h2:=Nat.le_of_ble_eq_true h
 have h3:(f+1000000) % 1000000=f:=by omega
 unfold Qt; rw[h1,h3]; rfl
theorem JH(f:Nat)(vs:List Value):(Qt f vs).cells.toList=[Qt f vs]:=by
 unfold Qt; cases Nat.ble 1000000 f<;>rfl
theorem Pv(f:Nat)(vs:List Value):(Qt f vs).oneCell'=true:=by
 unfold Qt; cases Nat.ble 1000000 f<;>rfl
theorem Jg(f:Nat)(vs:List Value):∃ g a b,Qt f vs=.func (.func g) a b:=by
 unfold Qt; cases Nat.ble 1000000 f<;>exact⟨_,_,_,rfl⟩
inductive RD(κ:KS):D→Value→Prop
 | zY (τ:Ty) (x:den τ) (cs:List Value) (h:Rc κ.w κ.ok τ x cs):RD κ (.zY τ x) (pk τ cs)
 | xz (e:Ty) (a:Option Addr):RD κ (.tight e ([]:List (den e)) false) (.slice a 0 0)
 | tight (e:Ty) (l:List (den e)) (ne:Bool) (blk off:Nat) (f:Nat→List Value) (uj:ne=true→l≠[]) (we:κ.ok blk)
   (h:∀ i (hi:i<l.length),Rc κ.w κ.ok e l[i] (f i))
   (hc:∀ i,i<l.length→∀ j v,(f i)[j]? = some v→κ.w.cell? ⟨blk,off+i*e.size+j,none⟩=some v) :
   RD κ (.tight e l ne) (.slice (some ⟨blk,off,none⟩) l.length l.length)
 | xo:RD κ .xo (.slice none 0 0)
 | yn:RD κ .yn (.pointer none)
 | xZ:RD κ .xZ .nilIface
 | vQ:RD κ .vQ .nilFunc
 | vR:RD κ .vR (.map none)
 | Zq (v:Value) (h:v.oneCell'=true):RD κ .Zq v
 | du (T:Nat):RD κ (.du T) (.pointer none)
 | dv (b T:Nat) (d:D) (hd:κ.st[b]? = some (.var d)):RD κ (.yi b T) (.pointer none)
 | dp (b T blk n:Nat) (d:D) (hd:κ.st[b]? = some (.var d)) (h:κ.ph[b]? = some (some (blk,n))):RD κ (.yi b T) (.pointer (some ⟨blk,0,none⟩))
 | ptr (b off blk n:Nat) (d:D) (hd:κ.st[b]? = some (.var d)) (h:κ.ph[b]? = some (some (blk,n))):RD κ (.ptr b off) (.pointer (some ⟨blk,off,none⟩))
 | xp (τ:Ty) (x:den τ) (cs:List Value) (blk off:Nat) (we:κ.ok blk) (h:Rc κ.w κ.ok τ x cs)
   (hc:∀ j v,cs[j]? = some v→κ.w.cell? ⟨blk,off+j,none⟩=some v):RD κ (.xp τ x) (.pointer (some ⟨blk,off,none⟩))
 | uk (b qR:Nat) (e:Ty) (idx off blk o:Nat) (hb:Old κ.st b qR)
   (h:∀ xs:List (den e),κ.st[b]? = some (.arr qR e xs)→idx<xs.length→∃ n:Nat,κ.ph[b]? = some (some (blk,n))∧o=idx*e.size+off) :
   RD κ (.uk b qR e idx off) (.pointer (some ⟨blk,o,none⟩))
 | ms (b qR:Nat) (e:Ty) (off len cap:Nat) (a:Option Addr) (hb:Old κ.st b qR) (wD:len≤cap) (ha:a=none→cap=0) (sT:∀ p,a=some p→p.spot=none)
   (h:∀ xs:List (den e),κ.st[b]? = some (.arr qR e xs)→Ia κ.ph b xs.length e off len (.slice a len cap)):RD κ (.ms b qR e off len) (.slice a len cap)
 | xk (f:Nat) (l:List D) (vs:List Value) (hl:l.length=vs.length) (h:∀ i (h1:i<l.length) (h2:i<vs.length),RD κ l[i] vs[i]):RD κ (.xk f l) (Qt f vs)
 | agg (l:List D) (vs:List Value) (hl:l.length=vs.length) (ho:∀ d∈l,d.one=true) (h:∀ i (h1:i<l.length) (h2:i<vs.length),RD κ l[i] vs[i]):RD κ (.agg l) (.agg vs.toArray)
 | gp (l:List D) (vs:List Value) (hl:l.length=vs.length) (h:∀ i (h1:i<l.length) (h2:i<vs.length),RD κ l[i] vs[i]):RD κ (.gp l) (.tuple vs.toArray)
 | iface (t:Nat) (d:D) (v:Value) (h:RD κ d v):RD κ (.iface t d) (.iface t v)
def xv(κ:KS)(l:List D)(vs:List Value):Prop:=l.length=vs.length∧∀ i (h1:i<l.length) (h2:i<vs.length),RD κ l[i] vs[i]
def iI[tO](κ:KS)(b:Nat):yf→Prop
 | .dead=>True
 | .var d=>∃ (blk n:Nat) (cs:Array Value) (t:TypeId),κ.ph[b]? = some (some (blk,n))∧κ.w.heap[blk]? = some (.cells cs t (0,0))∧cs.size=n∧xv κ (qq d) cs.toList∧(∀ x∈qq d,x.one=true)∧∀ T,d.typed=some T→t=T
 | .arr _ e xs=>0<e.size∧((xs=[]∧κ.ph[b]? = some none) ∨
   ∃ (blk n:Nat) (cs:Array Value) (t:TypeId),κ.ph[b]? = some (some (blk,n))∧κ.w.heap[blk]? = some (.cells cs t (0,0))∧cs.size=n∧xs.length*e.size≤n∧z4h e t ∧
    ∃ f:Nat→List Value,∀ i (hi:i<xs.length),Rc κ.w κ.ok e xs[i] (f i)∧∀ j v,(f i)[j]? = some v→cs[i*e.size+j]? = some v)
class uA extends tO where
 tab:List (Nat×(Obj→Prop))
def ZF[uA](w:World)(ok:Nat→Prop):Prop:=∀ x∈uA.tab,ok x.1∧∃ o,w.heap[x.1]? = some o∧x.2 o
theorem ZF.mono[uA]{w w':World}{ok VA:Nat→Prop}(h:ZF w ok)(hs:Ed w w' ok VA):ZF w' VA:=fun x hx=>by
 obtain⟨h1,o,h2,h3⟩:=h x hx
 obtain⟨g1,g2⟩:=hs _ h1
 exact⟨g1,o,by rw[g2]; exact h2,h3⟩
structure Inv[uA](κ:KS):Prop where
 len:κ.ph.length=κ.st.length
 y6:∀ k,κ.ok k→k<κ.w.heap.size
 apart:∀ (b blk n:Nat),κ.ph[b]? = some (some (blk,n))→blk<κ.w.heap.size∧¬ κ.ok blk
 inj:∀ (b b' blk n n':Nat),κ.ph[b]? = some (some (blk,n))→κ.ph[b']? = some (some (blk,n'))→b=b'
 blk:∀ (b:Nat) (x:yf),κ.st[b]? = some x→iI κ b x
 gl:ZF κ.w κ.ok
structure Ext(κ κ':KS):Prop where
 os:κ'.w.os=κ.w.os
 tape:κ'.w.tape=κ.w.tape
 output:κ'.w.output=κ.w.output
 size:κ.w.heap.size≤κ'.w.heap.size
 same:Ed κ.w κ'.w κ.ok κ'.ok
 fresh:∀ k,κ'.ok k→κ.ok k∨κ.w.heap.size≤k∨∃ b n:Nat,κ.ph[b]? = some (some (k,n))
 phs:∀ (b blk n:Nat),κ'.ph[b]? = some (some (blk,n))→κ.ph[b]? = some (some (blk,n))∨κ.w.heap.size≤blk
 var:∀ (b:Nat) (d:D),κ.st[b]? = some (.var d)→(∃ d',κ'.st[b]? = some (.var d'))∧κ'.ph[b]? = κ.ph[b]?
 arr:∀ (b v0:Nat) (e:Ty) (pj:List (den e)),κ.st[b]? = some (.arr v0 e pj)→κ'.st[b]? = some .dead ∨
  ∃ (v1:Nat) (zA:List (den e)),κ'.st[b]? = some (.arr v1 e zA)∧v0≤v1∧(v0=v1→κ'.ph[b]? = κ.ph[b]? ∧ pj.length=zA.length)
 dead:∀ (b:Nat),κ.st[b]? = some .dead→κ'.st[b]? = some .dead
 De:κ.st.length≤κ'.st.length
 frame:∀ k,k<κ.w.heap.size→(∀ (b n:Nat),κ.ph[b]? ≠ some (some (k,n)))→κ'.w.heap[k]? = κ.w.heap[k]?
theorem Ext.refl(κ:KS):Ext κ κ :=
 ⟨rfl,rfl,rfl,Nat.le_refl _,fun _ h=>⟨h,rfl⟩,fun _ h=>.inl h,fun _ _ _ h=>.inl h,fun _ d h=>⟨⟨d,h⟩,rfl⟩,
  fun _ qR _ xs h=>.inr ⟨qR,xs,h,Nat.le_refl _,fun _=>⟨rfl,rfl⟩⟩,fun _ h=>h,Nat.le_refl _,fun _ _ _=>rfl⟩
theorem Ext.trans{a b c:KS}(h:Ext a b)(k:Ext b c):Ext a c:=by
 refine⟨k.os.trans h.os,k.tape.trans h.tape,k.output.trans h.output,Nat.le_trans h.size k.size,?_,?_,?_,?_,?_,fun b hb=>k.dead b (h.dead b hb),Nat.le_trans h.De k.De,?_⟩
 ·intro i hi
  obtain⟨h1,h2⟩:=h.same i hi
  obtain⟨h3,h4⟩:=k.same i h1
  exact⟨h3,h4.trans h2⟩
 ·intro i hi
  rcases k.fresh i hi with h1 | h1 | ⟨b,n,h1⟩
  ·exact h.fresh i h1
  ·exact .inr (.inl (Nat.le_trans h.size h1))
  ·rcases h.phs b i n h1 with h2 | h2
   ·exact .inr (.inr ⟨b,n,h2⟩)
   ·exact .inr (.inl h2)
 ·intro i blk n hi
  rcases k.phs i blk n hi with h1 | h1
  ·exact h.phs i blk n h1
  ·exact .inr (Nat.le_trans h.size h1)
 ·intro i d hi
  obtain⟨⟨d',yM⟩,hp⟩:=h.var i d hi
  obtain⟨zgG,hp'⟩:=k.var i d' yM
  exact⟨zgG,hp'.trans hp⟩
 ·intro i v0 e pj hi
  rcases h.arr i v0 e pj hi with h1 | ⟨v1,x1,h1,h2,h3⟩
  ·exact .inl (k.dead i h1)
  ·rcases k.arr i v1 e x1 h1 with g1 | ⟨v2,x2,g1,g2,g3⟩
   ·exact .inl g1
   ·refine .inr ⟨v2,x2,g1,Nat.le_trans h2 g2,fun he => ?_⟩
    have e1:v1=v2:=by omega
    have e0:v0=v1:=by omega
    exact⟨(g3 e1).1.trans (h3 e0).1,(h3 e0).2.trans (g3 e1).2⟩
 ·intro i hi hn
  refine(k.frame i (Nat.lt_of_lt_of_le hi h.size) fun b n hb => ?_).trans (h.frame i hi hn)
  rcases h.phs b i n hb with h1 | h1
  ·exact hn b n h1
  ·omega
theorem Ext.old{κ κ':KS}(x:Ext κ κ'){b qR:Nat}(h:Old κ.st b qR):Old κ'.st b qR:=by
 rcases h with h | ⟨v0,e0,pj,h,hv⟩
 ·exact .inl (x.dead b h)
 ·rcases x.arr b v0 e0 pj h with h1 | ⟨v1,x1,h1,h2,_⟩
  ·exact .inl h1
  ·exact .inr ⟨v1,e0,x1,h1,Nat.le_trans hv h2⟩
theorem Ext.back{κ κ':KS}(x:Ext κ κ'){b qR:Nat}(h:Old κ.st b qR){e:Ty}{xs:List (den e)}(hx:κ'.st[b]? = some (.arr qR e xs)) :
  ∃ pj:List (den e),κ.st[b]? = some (.arr qR e pj)∧κ'.ph[b]? = κ.ph[b]? ∧ pj.length=xs.length:=by
 rcases h with h | ⟨v0,e0,pj,h,hv⟩
 ·have:=x.dead b h; rw[hx]at this; cases this
 ·rcases x.arr b v0 e0 pj h with h1 | ⟨v1,x1,h1,h2,h3⟩
  ·rw[hx]at h1; cases h1
  ·rw[hx]at h1
   cases h1
   have e0:v0=qR:=by omega
   subst e0
   exact⟨pj,h,(h3 rfl).1,(h3 rfl).2⟩
theorem RD.mono{κ κ':KS}(x:Ext κ κ'){d:D}{v:Value}(h:RD κ d v):RD κ' d v:=by
 induction h with
 | zY τ y cs h=>exact .zY τ y cs (h.mono x.same)
 | xz e a=>exact .xz e a
 | tight e l ne blk off f uj we h hc=>exact .tight e l ne blk off f uj (x.same _ we).1 (fun i hi=>(h i hi).mono x.same) fun i hi j v hv=>by rw[cf (x.same _ we).2]; exact hc i hi j v hv
 | xo=>exact .xo
 | yn=>exact .yn
 | xZ=>exact .xZ
 | vQ=>exact .vQ
 | vR=>exact .vR
 | Zq v h=>exact .Zq v h
 | du T=>exact .du T
 | dv b T d hd =>
  obtain⟨⟨d',yM⟩,hp⟩:=x.var b d hd
  exact .dv b T d' yM
 | dp b T blk n d hd h =>
  obtain⟨⟨d',yM⟩,hp⟩:=x.var b d hd
  exact .dp b T blk n d' yM (hp.trans h)
 | ptr b off blk n d hd h =>
  obtain⟨⟨d',yM⟩,hp⟩:=x.var b d hd
  exact .ptr b off blk n d' yM (hp.trans h)
 | xp τ y cs blk off we h hc=>exact .xp τ y cs blk off (x.same _ we).1 (h.mono x.same) fun j v hv=>by rw[cf (x.same _ we).2]; exact hc j v hv
 | uk b qR e idx off blk o hb h =>
  refine .uk b qR e idx off blk o (x.old hb) fun xs hx hi => ?_
  obtain⟨pj,h1,h2,h3⟩:=x.back hb hx
  rw[h2]
  exact h pj h1 (by omega)
 | ms b qR e off len cap a hb wD ha sT h =>
  refine .ms b qR e off len cap a (x.old hb) wD ha sT fun xs hx => ?_
  obtain⟨pj,h1,h2,h3⟩:=x.back hb hx
  have:=h pj h1
  unfold Ia at this ⊢
  rw[h2,← h3]
  exact this
 | xk f l vs hl h ih=>exact .xk f l vs hl ih
 | agg l vs hl ho h ih=>exact .agg l vs hl ho ih
 | gp l vs hl h ih=>exact .gp l vs hl ih
 | iface t d v h ih=>exact .iface t d v ih
end Go.AM
namespace Go.AM
section
variable {α β:Type}
theorem T.zT{t:T α}{k:α→T β}{b:β}:(t.bind k).leads b↔∃ a,t.leads a∧(k a).leads b:=by
 induction t with
 | ret a=>simp[T.bind,T.leads]
 | ite c t e i1 i2 =>
  simp only[T.bind,T.leads,i1,i2]
  constructor
  ·rintro(⟨h,a,x,y⟩ | ⟨h,a,x,y⟩)
   ·exact⟨a,.inl ⟨h,x⟩,y⟩
   ·exact⟨a,.inr ⟨h,x⟩,y⟩
  ·rintro⟨a,⟨h,x⟩ | ⟨h,x⟩,y⟩
   ·exact .inl ⟨h,a,x,y⟩
   ·exact .inr ⟨h,a,x,y⟩
 | zd p t ih =>
  simp only[T.bind,T.leads,ih]; constructor
  ·rintro⟨h,a,x,y⟩; exact⟨a,⟨h,x⟩,y⟩
  ·rintro⟨a,⟨h,x⟩,y⟩; exact⟨h,a,x,y⟩
 | fail=>simp[T.bind,T.leads]
theorem T.ua{o:Option α}{a:α}:(T.WH o).leads a↔o=some a:=by cases o<;>simp[T.WH,T.leads]
end
section
variable {κ:KS}
theorem xv.nil:xv κ [] []:=⟨rfl,fun i h _=>absurd h (Nat.not_lt_zero i)⟩
theorem xv.cons{d:D}{v:Value}{l:List D}{vs:List Value}(h:RD κ d v)(t:xv κ l vs):xv κ (d::l) (v::vs) :=
 ⟨by simp[t.1],fun i h1 h2=>by cases i with | zero=>exact h | succ i=>exact t.2 i (by simpa using h1) (by simpa using h2)⟩
theorem xv.cons_inv{d:D}{l:List D}{vs:List Value}(h:xv κ (d::l) vs):∃ v r,vs=v::r∧RD κ d v∧xv κ l r:=by
 obtain⟨hl,h⟩:=h
 cases vs with
 | nil=>simp at hl
 | cons v r=>exact⟨v,r,rfl,h 0 (by simp) (by simp),by simpa using hl,fun i h1 h2=>h (i+1) (by simpa using h1) (by simpa using h2)⟩
theorem xv.qF{vs:List Value}(h:xv κ [] vs):vs=[]:=List.eq_nil_of_length_eq_zero h.1.symm
theorem xv.append{l l':List D}{vs vs':List Value}(h:xv κ l vs)(h':xv κ l' vs'):xv κ (l++l') (vs++vs'):=by
 induction l generalizing vs with
 | nil=>rw[h.qF]; exact h'
 | cons d l ih=>obtain⟨v,r,rfl,h1,h2⟩:=h.cons_inv; exact .cons h1 (ih h2)
theorem xv.Fh{l l':List D}{vs:List Value}(h:xv κ (l++l') vs):∃ v1 v2,vs=v1++v2∧xv κ l v1∧xv κ l' v2:=by
 induction l generalizing vs with
 | nil=>exact⟨[],vs,rfl,.nil,h⟩
 | cons d l ih =>
  obtain⟨v,r,rfl,h1,h2⟩:=h.cons_inv
  obtain⟨v1,v2,rfl,h3,h4⟩:=ih h2
  exact⟨v::v1,v2,rfl,.cons h1 h3,h4⟩
theorem xv.get{l:List D}{vs:List Value}(h:xv κ l vs){i:Nat}{d:D}(hd:l[i]? = some d):∃ v,vs[i]? = some v∧RD κ d v:=by
 obtain⟨qp,he⟩:=List.getElem?_eq_some_iff.1 hd
 have h2:i<vs.length:=h.1▸qp
 exact⟨vs[i],List.getElem?_eq_getElem h2,he▸h.2 i qp h2⟩
theorem xv.take{l:List D}{vs:List Value}(h:xv κ l vs)(n:Nat):xv κ (l.take n) (vs.take n) :=
 ⟨by simp[h.1],fun i h1 h2=>by simp only[List.getElem_take]; exact h.2 i (by simp at h1; omega) (by simp at h2; omega)⟩
theorem xv.drop{l:List D}{vs:List Value}(h:xv κ l vs)(n:Nat):xv κ (l.drop n) (vs.drop n) :=
 ⟨by simp[h.1],fun i h1 h2=>by simp only[List.getElem_drop]; exact h.2 (n+i) (by simp at h1; omega) (by simp at h2; omega)⟩
theorem xv.mono{κ':KS}(x:Ext κ κ'){l:List D}{vs:List Value}(h:xv κ l vs):xv κ' l vs:=⟨h.1,fun i h1 h2=>(h.2 i h1 h2).mono x⟩
theorem Xf{τ:Ty}{cs:List Value}(h:cs.length=τ.size)(nE:∀ v∈cs,v.oneCell'=true):(pk τ cs).cells.toList=cs:=by
 unfold pk
 split
 ·simp[Value.cells]
 ·rename_i hn
  have hs:τ.size=1:=by cases τ<;>simp[Ty.isAgg]at hn<;>rfl
  match cs,h,nE with
  | [v],_,nE =>
   have:=nE v (by simp)
   simp only[List.headD_cons]
   cases v<;>first | rfl | cases this
  | [],h,_=>rw[hs]at h; cases h
  | _::_::_,h,_=>rw[hs]at h; simp at h
theorem Jq{τ:Ty}(h:τ.isAgg=false)(v:Value):pk τ [v]=v:=by simp[pk,h]
theorem WV{τ:Ty}(h:τ.isAgg=false):τ.size=1:=by cases τ<;>simp[Ty.isAgg]at h<;>rfl
theorem Rc.single{w:World}{ok:Nat→Prop}{τ:Ty}{x:den τ}{cs:List Value}(h:Rc w ok τ x cs)(ht:τ.isAgg=false):∃ v,cs=[v]:=by
 have:=h.len
 rw[WV ht]at this
 match cs,this with
 | [v],_=>exact⟨v,rfl⟩
theorem RD.mO{τ:Ty}{x:den τ}{v:Value}(ht:τ.isAgg=false)(h:Rc κ.w κ.ok τ x [v]):RD κ (.zY τ x) v:=by
 have:=RD.zY τ x [v] h
 rwa [Jq ht]at this
theorem RD.b7{τ:Ty}{x:den τ}{v:Value}(h:RD κ (.zY τ x) v):∃ cs,Rc κ.w κ.ok τ x cs∧v=pk τ cs:=by
 cases h with | zY _ _ cs h=>exact⟨cs,h,rfl⟩
theorem RD.wK{τ:Ty}{x:den τ}{v:Value}(h:RD κ (.zY τ x) v)(ht:τ.isAgg=false):Rc κ.w κ.ok τ x [v]:=by
 obtain⟨cs,hc,rfl⟩:=RD.b7 h
 obtain⟨u,rfl⟩:=hc.single ht
 rwa [Jq ht]
theorem RD.int{k:IntKind}{n:Int}:RD κ (.zY (.int k) n) (.int k n):=RD.mO rfl (.int k n)
theorem RD.bool{b:Bool}:RD κ (.zY .bool b) (.bool b):=RD.mO rfl (.bool b)
theorem RD.str{s:zf}:RD κ (.zY .str s) (.string ⟨s.toArray⟩):=RD.mO rfl (.str s)
theorem RD.eJ{k:IntKind}{n:Int}{v:Value}(h:RD κ (.zY (.int k) n) v):v=.int k n:=by have:=(h.wK rfl).eJ; simpa using this
theorem RD.bG{b:Bool}{v:Value}(h:RD κ (.zY .bool b) v):v=.bool b:=by have:=(h.wK rfl).bG; simpa using this
theorem RD.iU{s:zf}{v:Value}(h:RD κ (.zY .str s) v):v=.string ⟨s.toArray⟩:=by have:=(h.wK rfl).iU; simpa using this
theorem xv.one{d:D}{v:Value}(h:RD κ d v):xv κ [d] [v]:=.cons h .nil
theorem pX{τ:Ty}{x:den τ}{cs:List Value}(h:Rc κ.w κ.ok τ x cs):xv κ (flat τ x) cs:=by
 induction τ generalizing cs with
 | int k=>obtain⟨v,rfl⟩:=h.single rfl; exact .one (.mO rfl h)
 | bool=>obtain⟨v,rfl⟩:=h.single rfl; exact .one (.mO rfl h)
 | str=>obtain⟨v,rfl⟩:=h.single rfl; exact .one (.mO rfl h)
 | sl e _=>obtain⟨v,rfl⟩:=h.single rfl; exact .one (.mO rfl h)
 | nil=>rw[h.qF]; exact .nil
 | cons a b i1 i2=>obtain⟨c1,c2,rfl,h1,h2⟩:=h.cons_inv; exact(i1 h1).append (i2 h2)
 | expr =>
  obtain⟨c1,r1,rfl,h1,t1⟩:=h.DA.cons_inv
  obtain⟨c2,r2,rfl,h2,t2⟩:=t1.cons_inv
  obtain⟨c3,r3,rfl,h3,t3⟩:=t2.cons_inv
  obtain⟨c4,r4,rfl,h4,t4⟩:=t3.cons_inv
  have e4:=t4.qF
  subst e4
  obtain⟨d1,s1,rfl,g1,u1⟩:=h2.cons_inv
  obtain⟨d2,s2,rfl,g2,u2⟩:=u1.cons_inv
  obtain⟨d3,s3,rfl,g3,u3⟩:=u2.cons_inv
  have e5:=u3.qF
  subst e5
  obtain⟨v1,rfl⟩:=h1.single rfl
  obtain⟨v3,rfl⟩:=h3.single rfl
  obtain⟨v4,rfl⟩:=h4.single rfl
  obtain⟨u1,rfl⟩:=g1.single rfl
  obtain⟨u2,rfl⟩:=g2.single rfl
  obtain⟨u3,rfl⟩:=g3.single rfl
  exact .cons (.mO rfl h1) (.cons (.mO rfl g1) (.cons (.mO rfl g2) (.cons (.mO rfl g3) (.cons (.mO rfl h3) (.cons (.mO rfl h4) .nil)))))
theorem cX:∀ (τ:Ty) (x:den τ),∀ d∈flat τ x,d.one=true
 | .int _,_,d,h | .bool,_,d,h | .str,_,d,h | .sl _,_,d,h=>by simp[flat]at h; subst h; rfl
 | .nil,_,d,h=>by simp[flat]at h
 | .cons a b,x,d,h=>by
  simp only[flat,List.mem_append]at h
  rcases h with h | h
  ·exact cX a x.1 d h
  ·exact cX b x.2 d h
 | .expr,x,d,h=>by simp[flat]at h; rcases h with rfl | rfl | rfl | rfl | rfl | rfl<;>rfl
theorem k9:∀ (τ:Ty) (x:den τ),(flat τ x).length=τ.size
 | .int _,_ | .bool,_ | .str,_ | .sl _,_ | .nil,_ | .expr,_=>rfl
 | .cons a b,x=>by simp[flat,Ty.size,k9 a,k9 b]
theorem Gw{v:Value}(h:v.oneCell'=true):v.cells = #[v]:=by
 cases v<;>first | rfl | cases h
theorem jq{d:D}{v:Value}(h:RD κ d v)(ht:d.uy=false):xv κ (qq d) v.cells.toList:=by
 cases h with
 | zY τ x cs h=>rw[Xf h.len h.one]; exact pX h
 | agg l vs hl ho h=>exact⟨by simpa[Value.cells,qq]using hl,fun i h1 h2=>by simp only[Value.cells]at h2 ⊢; exact h i h1 h2⟩
 | gp=>cases ht
 | xz e a=>exact .one (.xz e a)
 | tight e l ne blk off f uj we h hc=>exact .one (.tight e l ne blk off f uj we h hc)
 | xo=>exact .one .xo
 | yn=>exact .one .yn
 | xZ=>exact .one .xZ
 | vQ=>exact .one .vQ
 | vR=>exact .one .vR
 | Zq v h=>rw[Gw h]; exact .one (.Zq v h)
 | du T=>exact .one (.du T)
 | dv b T d hd=>exact .one (.dv b T d hd)
 | dp b T blk n d hd h=>exact .one (.dp b T blk n d hd h)
 | ptr b off blk n d hd h=>exact .one (.ptr b off blk n d hd h)
 | xp τ x cs blk off we h hc=>exact .one (.xp τ x cs blk off we h hc)
 | uk b qR e idx off blk o hb h=>exact .one (.uk b qR e idx off blk o hb h)
 | ms b qR e off len cap a hb wD ha sT h=>exact .one (.ms b qR e off len cap a hb wD ha sT h)
 | xk f l vs hl h=>rw[JH]; exact .one (.xk f l vs hl h)
 | iface t d v h=>exact .one (.iface t d v h)
theorem jm{d:D}{v:Value}(h:RD κ d v):∀ x∈qq d,x.one=true:=by
 cases h with
 | zY τ x cs h=>exact cX τ x
 | agg l vs hl ho h=>exact ho
 | gp=>intro x hx; simp[qq]at hx
 | _=>intro x hx; simp[qq]at hx; subst hx; rfl
theorem RD.Ua{d:D}{v:Value}(h:RD κ d v)(ho:d.one=true):v.oneCell'=true:=by
 cases h with
 | zY τ x cs h =>
  have ht:τ.isAgg=false:=by simpa[D.one]using ho
  obtain⟨v,rfl⟩:=h.single ht
  rw[Jq ht]
  exact h.one v (by simp)
 | agg=>cases ho
 | gp=>cases ho
 | Zq v h=>exact h
 | xk f l vs=>exact Pv f vs
 | _=>rfl
theorem qB{a b:Ty}{x:den a}{y:den b}(h:(vP x:Option (den b))=some y):∃ e:a=b,y=e▸x:=by
 unfold vP at h
 split at h
 ·rename_i e; cases h; exact⟨e,rfl⟩
 ·cases h
theorem yD{τ:Ty}{d:D}{v:Value}{x:den τ}(h:RD κ d v)(hx:iv τ d=some x)(ht:τ.isAgg=false):Rc κ.w κ.ok τ x [v]:=by
 cases h with
 | zY σ y cs h =>
  obtain⟨rfl,rfl⟩:=qB hx
  obtain⟨u,rfl⟩:=h.single ht
  rwa [Jq ht]
 | xz e a=>obtain⟨rfl,rfl⟩:=qB hx; exact .iE e a
 | tight e l ne blk off f uj we h hc=>obtain⟨rfl,rfl⟩:=qB hx; exact .sl e _ blk off _ f we (Nat.le_refl _) h hc
 | xo =>
  cases τ with
  | sl e=>simp[iv]at hx; subst hx; exact .iE e none
  | _=>simp[iv]at hx
 | _=>simp[iv]at hx
theorem tv:∀ (τ:Ty) {ds:List D} {vs:List Value} {x:den τ} {r:List D},xv κ ds vs→jy τ ds=some (x,r) →
  ∃ c1 c2,vs=c1++c2∧Rc κ.w κ.ok τ x c1∧xv κ r c2
 | .int k,[],_,_,_,_,he | .bool,[],_,_,_,_,he | .str,[],_,_,_,_,he | .sl e,[],_,_,_,_,he | .expr,[],_,_,_,_,he=>by simp[jy]at he
 | .int k,d::r,vs,x,r',h,he=>by
  simp only[jy]at he
  split at he
  ·rename_i y hy; cases he; obtain⟨v,u,rfl,h1,h2⟩:=h.cons_inv; exact⟨[v],u,rfl,yD h1 hy rfl,h2⟩
  ·cases he
 | .bool,d::r,vs,x,r',h,he=>by
  simp only[jy]at he
  split at he
  ·rename_i y hy; cases he; obtain⟨v,u,rfl,h1,h2⟩:=h.cons_inv; exact⟨[v],u,rfl,yD h1 hy rfl,h2⟩
  ·cases he
 | .str,d::r,vs,x,r',h,he=>by
  simp only[jy]at he
  split at he
  ·rename_i y hy; cases he; obtain⟨v,u,rfl,h1,h2⟩:=h.cons_inv; exact⟨[v],u,rfl,yD h1 hy rfl,h2⟩
  ·cases he
 | .sl e,d::r,vs,x,r',h,he=>by
  simp only[jy]at he
  split at he
  ·rename_i y hy; cases he; obtain⟨v,u,rfl,h1,h2⟩:=h.cons_inv; exact⟨[v],u,rfl,yD h1 hy rfl,h2⟩
  ·cases he
 | .nil,ds,vs,x,r,h,he=>by simp only[jy]at he; cases he; exact⟨[],vs,rfl,.nil,h⟩
 | .cons a b,ds,vs,x,r,h,he=>by
  simp only[jy]at he
  split at he
  ·rename_i y r' hy
   split at he
   ·rename_i z r'' hz
    cases he
    obtain⟨c1,c2,rfl,h1,h2⟩:=tv a h hy
    obtain⟨c3,c4,rfl,h3,h4⟩:=tv b h2 hz
    exact⟨c1++c3,c4,by simp,.cons a b y z c1 c3 h1 h3,h4⟩
   ·cases he
  ·cases he
 | .expr,d::r,vs,x,r',h,he=>by
  simp only[jy]at he
  split at he
  ·cases he
  ·rename_i k hk
   split at he
   ·rename_i d1 d2 d3 d4 d5 r0
    split at he
    ·rename_i a n m s l ha hn hm hs hl
     cases he
     obtain⟨v,u,rfl,h0,t0⟩:=h.cons_inv
     obtain⟨v1,u1,rfl,h1,t1⟩:=t0.cons_inv
     obtain⟨v2,u2,rfl,h2,t2⟩:=t1.cons_inv
     obtain⟨v3,u3,rfl,h3,t3⟩:=t2.cons_inv
     obtain⟨v4,u4,rfl,h4,t4⟩:=t3.cons_inv
     obtain⟨v5,u5,rfl,h5,t5⟩:=t4.cons_inv
     refine⟨[v]++(([v1]++([v2]++([v3]++[])))++([v4]++([v5]++[]))),u5,by simp,.expr _ _ _ _ _ ?_,t5⟩
     exact .cons i64 _ k _ _ _ (yD h0 hk rfl) (.cons G1 _ (a,n,m,()) _ _ _ (.cons .bool _ a _ _ _ (yD h1 ha rfl) (.cons _ _ n _ _ _ (yD h2 hn rfl) (.cons _ _ m _ _ _ (yD h3 hm rfl) .nil)))
      (.cons .str _ s _ _ _ (yD h4 hs rfl) (.cons _ _ l _ _ _ (yD h5 hl rfl) .nil)))
    ·cases he
   ·cases he
theorem cD{τ:Ty}{d:D}{v:Value}{x:den τ}(h:RD κ d v)(hx:dY τ d=some x):RD κ (.zY τ x) v:=by
 have key:(∀ σ y,d≠.zY σ y)→(bif (d.isAgg==τ.isAgg) && !d.uy then(match jy τ (qq d)with | some (x,[])=>some x | _=>none)else none)=some x→RD κ (.zY τ x) v:=by
  intro hni hx
  cases hc:(d.isAgg==τ.isAgg) && !d.uy with
  | false=>rw[hc]at hx; cases hx
  | true =>
  rw[hc]at hx
  simp only[cond_true]at hx
  simp only[Bool.and_eq_true,beq_iff_eq,Bool.not_eq_true']at hc
  obtain⟨z2R,H5⟩:=hc
  split at hx
  ·rename_i y hy
   cases hx
   obtain⟨c1,c2,he,h1,h2⟩:=tv τ (jq h H5) hy
   have e2:=h2.qF
   subst e2
   rw[List.append_nil]at he
   have hv:v=pk τ c1:=by
    rw[← he]
    cases hd:d.isAgg with
    | true =>
     cases d<;>simp[D.isAgg]at hd
     cases h with | agg l vs hl ho h=>simp[pk,D.isAgg]at z2R ⊢; simp[← z2R,Value.cells]
    | false =>
     rw[hd]at z2R
     simp only[pk,← z2R,Bool.false_eq_true,if_false]
     cases h<;>first | rfl | (rw[JH]; rfl) | (rename_i hu; rw[Gw hu]; rfl) | (rename_i σ y cs hc; exact absurd rfl (hni σ y)) | (simp[D.isAgg]at hd; done) | (simp[D.uy]at H5; done)
   rw[hv]
   exact .zY τ _ c1 h1
  ·cases hx
 cases d with
 | zY σ y=>obtain⟨rfl,rfl⟩:=qB hx; exact h
 | _=>exact key (fun _ _=>nofun) hx
end
end Go.AM
namespace Go.AM
set_option linter.unusedSectionVars false
variable [uA]
def qY(P:Program)(s:Sem Next)(κ:KS)(d:Option D)(zL:St):Prop :=
 ∃ (κ':KS) (n:Next) (v:Value),s.run P κ.w=.ok n κ'.w∧(n=.value v∨(n=.skip∧v=undef))∧κ'.st=zL∧Inv κ'∧Ext κ κ'∧∀ d',d=some d'→RD κ' d' v
section
variable {c:Ctx} {κ:KS}
theorem qY.pure{s:Sem Value}{d:D}{v:Value}(hi:Inv κ)(h:s.run c.P κ.w=.ok v κ.w)(hd:RD κ d v):qY c.P (do Pure.pure (.value (← s))) κ (some d) κ.st :=
 ⟨κ,.value v,v,by simp[h],.inl rfl,rfl,hi,Ext.refl κ,fun _ he=>by cases he; exact hd⟩
theorem qY.val{d:Option D}{v:Value}(hi:Inv κ)(hd:∀ d',d=some d'→RD κ d' v):qY c.P (Pure.pure (.value v)) κ d κ.st :=
 ⟨κ,.value v,v,rfl,.inl rfl,rfl,hi,Ext.refl κ,hd⟩
theorem iu{t n:Nat}(h:lE c t=some n):∃ i,c.P.info? t=some i∧i.size=n:=by
 unfold lE at h
 cases hi:c.P.info? t with
 | none=>simp[hi]at h
 | some i=>exact⟨i,rfl,by simpa[hi]using h⟩
theorem run_sizeOf{t n:Nat}(h:lE c t=some n)(w:World):(sizeOf t).run c.P w=.ok n w:=by
 obtain⟨i,h1,h2⟩:=iu h
 simp[sizeOf,typeInfo,h1,h2]
theorem tc{t:Nat}{b:Bool}(h:Bp c t=some b)(w:World):(isAgg t).run c.P w=.ok b w:=by
 unfold Bp at h
 cases hu:c.P.underlying t with
 | none=>simp[hu]at h
 | some d =>
  simp only[isAgg,Sem.run_bind,run_underlying hu,Result.andThen_ok]
  cases d<;>simp[hu]at h<;>simp[← h]
theorem vp{t:Nat}{τ:Ty}(h:kT c t τ=true):lE c t=some τ.size∧Bp c t=some τ.isAgg:=by
 unfold kT at h
 simp only[Bool.and_eq_true]at h
 obtain⟨⟨_,h1⟩,h2⟩:=h
 constructor
 ·split at h1
  ·rename_i n hn; rw[hn,Nat.eq_of_beq_eq_true h1]
  ·cases h1
 ·split at h2
  ·rename_i b hb; rw[hb]; simpa using h2
  ·cases h2
theorem XH{t:Nat}{τ:Ty}(h:kT c t τ=true):z4h τ t:=by
 unfold kT at h
 simp only[Bool.and_eq_true]at h
 intro e
 subst e
 exact Nat.eq_of_beq_eq_true h.1.1
omit [uA]in
theorem vw(blk o j:Nat):(⟨blk,o,none⟩:Addr).add j=⟨blk,o+j,none⟩:=by unfold Addr.add; split<;>simp_all
theorem lP{t:Nat}{b:Bool}{n blk o:Nat}{cs:List Value}(ha:Bp c t=some b)(hn:lE c t=some n)(hl:cs.length=n)(h1:b=false→n=1)
  (hc:∀ j v,cs[j]? = some v→κ.w.cell? ⟨blk,o+j,none⟩=some v) :
  (loadVar t ⟨blk,o,none⟩).run c.P κ.w=.ok (if b then .agg cs.toArray else cs.headD undef) κ.w:=by
 simp only[loadVar,Sem.run_bind,tc ha,Result.andThen_ok]
 cases b with
 | true =>
  simp only[if_true,Sem.run_bind,run_sizeOf hn,Result.andThen_ok]
  rw[← hl,run_loadCells_list κ.w ⟨blk,o,none⟩ cs (fun j v hj=>by rw[vw]; exact hc j v hj)]
  simp
 | false =>
  have:=h1 rfl
  subst this
  match cs,hl with
  | [v],_ =>
   have:=hc 0 v rfl
   simp only[Nat.add_zero]at this
   simp[this]
theorem Sf{t:Nat}{τ:Ty}{x:den τ}{cs:List Value}{blk o:Nat}(ht:kT c t τ=true)(h:Rc κ.w κ.ok τ x cs)
  (hc:∀ j v,cs[j]? = some v→κ.w.cell? ⟨blk,o+j,none⟩=some v):(loadVar t ⟨blk,o,none⟩).run c.P κ.w=.ok (pk τ cs) κ.w:=by
 obtain⟨h1,h2⟩:=vp ht
 rw[lP (c:=c) h2 h1 h.len (fun e=>WV e) hc]
 cases he:τ.isAgg<;>simp[pk,he]
theorem wF{t:T (Option D)}{st zL:St}{d:Option D}:(zS (.val t) st).leads (d,zL)↔t.leads d∧zL=st:=by
 simp only[zS,T.zT,T.leads,Prod.mk.injEq]
 constructor
 ·rintro⟨a,h,rfl,rfl⟩; exact⟨h,rfl⟩
 ·rintro⟨h,rfl⟩; exact⟨d,h,rfl,rfl⟩
theorem mL{k:St→T (Option D)}{st zL:St}{d:Option D}:(zS (.rd k) st).leads (d,zL)↔(k st).leads d∧zL=st:=by
 simp only[zS,T.zT,T.leads,Prod.mk.injEq]
 constructor
 ·rintro⟨a,h,rfl,rfl⟩; exact⟨h,rfl⟩
 ·rintro⟨h,rfl⟩; exact⟨d,h,rfl,rfl⟩
theorem zj{st:St}{r:Option D×St}:¬ (zS bad st).leads r:=by obtain⟨d,zL⟩:=r; rw[bad,wF]; exact fun h=>h.1
theorem w8{x:D}{st zL:St}{d:Option D}:(zS (AM.val x) st).leads (d,zL)↔d=some x∧zL=st:=by
 rw[AM.val,wF]; simp only[T.leads]; exact⟨fun h=>⟨h.1.symm,h.2⟩,fun h=>⟨h.1.symm,h.2⟩⟩
theorem wY{p:Prop}{x:D}{st zL:St}{d:Option D}:(zS (.val (.zd p (.ret (some x)))) st).leads (d,zL)↔p∧d=some x∧zL=st:=by
 rw[wF]; simp only[T.leads]
 exact⟨fun h=>⟨h.1.1,h.1.2.symm,h.2⟩,fun h=>⟨⟨h.1,h.2.1.symm⟩,h.2.2⟩⟩
theorem Kc{x:Option D}{st zL:St}{d:Option D}(h:(zS (z30 x) st).leads (d,zL)):∃ y,x=some y∧d=some y∧zL=st:=by
 cases x with
 | none=>exact absurd h zj
 | some y=>rw[z30,wF]at h; exact⟨y,rfl,h.1.symm,h.2⟩
theorem Uz:∀ (τ:Ty) (x:den τ) {cs:List Value},xv κ (flat τ x) cs→Rc κ.w κ.ok τ x cs
 | .int k,x,cs,h=>by obtain⟨v,r,rfl,h1,h2⟩:=h.cons_inv; rw[h2.qF]; exact h1.wK rfl
 | .bool,x,cs,h=>by obtain⟨v,r,rfl,h1,h2⟩:=h.cons_inv; rw[h2.qF]; exact h1.wK rfl
 | .str,x,cs,h=>by obtain⟨v,r,rfl,h1,h2⟩:=h.cons_inv; rw[h2.qF]; exact h1.wK rfl
 | .sl e,x,cs,h=>by obtain⟨v,r,rfl,h1,h2⟩:=h.cons_inv; rw[h2.qF]; exact h1.wK rfl
 | .nil,x,cs,h=>by rw[h.qF]; exact .nil
 | .cons a b,x,cs,h=>by
  obtain⟨c1,c2,rfl,h1,h2⟩:=xv.Fh h
  exact .cons a b x.1 x.2 c1 c2 (Uz a x.1 h1) (Uz b x.2 h2)
 | .expr,.mk k (a,n,m,()) s l,cs,h=>by
  obtain⟨v,u,rfl,h0,t0⟩:=h.cons_inv
  obtain⟨v1,u1,rfl,h1,t1⟩:=t0.cons_inv
  obtain⟨v2,u2,rfl,h2,t2⟩:=t1.cons_inv
  obtain⟨v3,u3,rfl,h3,t3⟩:=t2.cons_inv
  obtain⟨v4,u4,rfl,h4,t4⟩:=t3.cons_inv
  obtain⟨v5,u5,rfl,h5,t5⟩:=t4.cons_inv
  rw[t5.qF]
  have e:[v,v1,v2,v3,v4,v5]=[v]++(([v1]++([v2]++([v3]++[])))++([v4]++([v5]++[]))):=rfl
  rw[e]
  exact .expr _ _ _ _ _ (.cons i64 _ k _ _ _ (h0.wK rfl) (.cons G1 _ (a,n,m,()) _ _ _ (.cons .bool _ a _ _ _ (h1.wK rfl) (.cons (.sl u32) (.cons (.sl u32) .nil) n (m,()) [v2] ([v3]++[]) (h2.wK rfl) (.cons (.sl u32) .nil m () [v3] [] (h3.wK rfl) .nil)))
      (.cons .str _ s _ _ _ (h4.wK rfl) (.cons (.sl .expr) .nil l () [v5] [] (h5.wK rfl) .nil))))
theorem Lt{t:Nat}{d r:D}{off:Nat}{vs:List Value}(h:FC c t d off=some r)(hd:xv κ (qq d) vs)(nE:∀ x∈qq d,x.one=true) :
  (∃ n,Bp c t=some true∧lE c t=some n∧off+n≤vs.length∧RD κ r (.agg ((vs.drop off).take n).toArray)) ∨
  (∃ v,Bp c t=some false∧vs[off]? = some v∧RD κ r v):=by
 unfold FC at h
 split at h
 ·rename_i ha
  split at h
  ·cases h
  ·rename_i n hn
   refine .inl ⟨n,ha,hn,?_⟩
   cases hb:(Nat.beq off 0&&Nat.beq n (qq d).length&&d.z9T)with
   | true =>
    rw[hb]at h
    simp only[cond_true,Option.some.injEq]at h
    subst h
    simp only[Bool.and_eq_true]at hb
    obtain⟨⟨h1,h2⟩,h3⟩:=hb
    have e1:off=0:=Nat.eq_of_beq_eq_true h1
    have e2:n=(qq d).length:=Nat.eq_of_beq_eq_true h2
    subst e1
    have hl:=hd.1
    rw[e2,hl]
    refine⟨by omega,?_⟩
    simp only[List.drop_zero,List.take_length]
    cases d with
    | zY τ x =>
     have:=RD.zY τ x vs (Uz τ x hd)
     simpa[pk,show τ.isAgg=true from h3]using this
    | agg l=>exact .agg l vs hl nE hd.2
    | _=>cases h3
   | false =>
    rw[hb]at h
    simp only[cond_false]at h
    split at h
    ·rename_i l hl
     cases h
     unfold Yt at hl
     cases hle:Nat.ble (off+n) (qq d).length with
     | false=>rw[hle]at hl; cases hl
     | true =>
      rw[hle]at hl
      cases hl
      have Ym:=Nat.le_of_ble_eq_true hle
      refine⟨by rw[← hd.1]; exact Ym,?_⟩
      have ht:=(hd.drop off).take n
      exact .agg _ _ ht.1 (fun x hx=>nE x (List.mem_of_mem_drop (List.mem_of_mem_take hx))) ht.2
    ·cases h
 ·rename_i ha
  obtain⟨v,h1,h2⟩:=hd.get h
  exact .inr ⟨v,ha,h1,h2⟩
 ·cases h
theorem J2{t:Nat}{d r:D}{off blk:Nat}{vs:List Value}(base:Nat)(h:FC c t d off=some r)(hd:xv κ (qq d) vs)(nE:∀ x∈qq d,x.one=true)
  (hc:∀ j v,vs[j]? = some v→κ.w.cell? ⟨blk,base+j,none⟩=some v):∃ v,(loadVar t ⟨blk,base+off,none⟩).run c.P κ.w=.ok v κ.w∧RD κ r v:=by
 rcases Lt h hd nE with⟨n,ha,hn,hle,hr⟩ | ⟨v,ha,hv,hr⟩
 ·refine⟨_,?_,hr⟩
  rw[lP (c:=c) (b:=true) (cs:=(vs.drop off).take n) ha hn (by simp; omega) nofun]
  ·simp
  ·intro j v hj
   rw[Nat.add_assoc]
   refine hc _ _ ?_
   rw[List.getElem?_take]at hj
   split at hj
   ·rwa [List.getElem?_drop]at hj
   ·cases hj
 ·refine⟨v,?_,hr⟩
  simp only[loadVar,Sem.run_bind,tc ha,Result.andThen_ok]
  simp[hc off v hv]
theorem Inv.Mq{κ:KS}(hi:Inv κ){b:Nat}{x:yf}(h:κ.st[b]? = some x):iI κ b x:=hi.blk b x h
theorem tn{blk:Nat}{cs:Array Value}{t:TypeId}{fz:Nat×Nat}(h:κ.w.heap[blk]? = some (.cells cs t fz))(o:Nat):κ.w.cell? ⟨blk,o,none⟩=cs[o]? := by
 simp[World.cell?,h]
theorem NM{t:Nat}{x:Option D}{v:Value}{d:Option D}{zL:St}(hi:Inv κ)(hx:∀ y,x=some y→RD κ y v)(h:(zS (Kt c t x) κ.st).leads (d,zL)) :
  qY c.P (do Pure.pure (.value (← Instr.loadAt t v))) κ d zL:=by
 unfold Kt at h
 split at h
 ·rename_i τ y
  cases ht:kT c t τ with
  | false=>rw[ht]at h; exact absurd h zj
  | true =>
   rw[ht,cond_true,w8]at h
   obtain⟨rfl,rfl⟩:=h
   cases hx _ rfl with
   | xp _ _ cs blk off we hr hc =>
    exact qY.pure hi (by simp[Instr.loadAt,Instr.sureAddr,Sf ht hr hc]) (.zY τ y cs hr)
 ·rename_i b off
  rw[mL]at h
  obtain⟨h,rfl⟩:=h
  split at h
  ·rename_i d0 hb
   split at h
   ·rename_i r hr
    cases h
    cases hx _ rfl with
    | ptr _ _ blk n d1 hd hp =>
     obtain⟨ma,n',cs,T,g1,g2,g3,g4,g5⟩:=hi.blk b _ hb
     rw[hp]at g1
     cases g1
     obtain⟨v,h1,h2⟩:=J2 (c:=c) (blk:=blk) 0 hr g4 g5.1 (fun j v hj=>by rw[tn g2]; simpa using hj)
     rw[Nat.zero_add]at h1
     exact qY.pure hi (by simp[Instr.loadAt,Instr.sureAddr,h1]) h2
   ·exact h.elim
  ·exact h.elim
 ·rename_i b qR e idx off
  rw[mL]at h
  obtain⟨h,rfl⟩:=h
  split at h
  ·rename_i kv e' xs hb
   cases he:decide (e'=e)with
   | false=>rw[he]at h; exact h.elim
   | true =>
    rw[he,cond_true]at h
    have R0:e'=e:=of_decide_eq_true he
    subst R0
    obtain⟨⟨rfl,qp⟩,h⟩:=h
    split at h
    ·rename_i r hr
     cases h
     cases hx _ rfl with
     | uk _ _ _ _ _ blk o hold hp =>
      obtain⟨n,p1,rfl⟩:=hp xs hb qp
      obtain⟨jn,⟨Xd,_⟩ | ⟨ma,n',cs,T,g1,g2,g3,g4,gr,f,g5⟩⟩:=hi.blk b _ hb
      ·subst Xd; cases qp
      ·rw[p1]at g1
       cases g1
       have hg:xs.getD idx (zb e')=xs[idx]:=by simp[List.getD,List.getElem?_eq_getElem qp]
       rw[hg]at hr
       obtain⟨k1,k2⟩:=g5 idx qp
       obtain⟨v,h1,h2⟩:=J2 (c:=c) (blk:=blk) (idx*e'.size) hr (pX k1) (cX _ _) (fun j v hj=>by rw[tn g2]; exact k2 j v hj)
       exact qY.pure hi (by simp[Instr.loadAt,Instr.sureAddr,h1]) h2
    ·exact h.elim
  ·exact h.elim
 ·exact absurd h zj
end
end Go.AM
namespace Go.AM
set_option linter.unusedSectionVars false
variable [uA]
section
variable {c:Ctx} {κ:KS}
theorem GV{s f o n:Nat}(h:Ud c s f=some (o,n)):∃ fs fd,c.P.underlying s=some (.struct fs)∧fs[f]? = some fd∧lE c fd.type=some n∧n≠0∧fd.offset=o:=by
 unfold Ud at h
 split at h
 ·rename_i fs hu
  split at h
  ·rename_i fd hf
   split at h
   ·rename_i m hm
    cases hb:Nat.beq m 0 with
    | true=>rw[hb]at h; cases h
    | false =>
     rw[hb]at h
     cases h
     refine⟨fs,fd,hu,hf,hm,?_,rfl⟩
     intro e
     subst e
     cases hb
   ·cases h
  ·cases h
 ·cases h
theorem sq{s f o n blk p:Nat}(h:Ud c s f=some (o,n))(w:World) :
  (Instr.fieldAt s (.pointer (some ⟨blk,p,none⟩)) f).run c.P w=.ok (.pointer (some ⟨blk,p+o,none⟩)) w:=by
 obtain⟨fs,fd,h1,h2,h3,h4,h5⟩:=GV h
 simp[Instr.fieldAt,run_underlying h1,h2,Instr.sureAddr,fieldPlace,run_sizeOf h3,h4,vw,h5]
theorem UY:∀ (τ:Ty) (x:den τ) (n:Nat) {d:D} {o s:Nat} {cs:List Value},pU τ x n=some (d,o,s)→Rc κ.w κ.ok τ x cs →
  ∃ (σ:Ty) (y:den σ) (c2:List Value),d=.xp σ y∧Rc κ.w κ.ok σ y c2∧s=σ.size∧∀ j v,c2[j]? = some v→cs[o+j]? = some v
 | .cons a b,x,0,d,o,s,cs,h,hr=>by
  simp only[pU]at h
  cases h
  obtain⟨c1,c2,rfl,h1,h2⟩:=hr.cons_inv
  exact⟨a,x.1,c1,rfl,h1,rfl,fun j v hj=>by
   obtain⟨qp,_⟩:=List.getElem?_eq_some_iff.1 hj
   rw[Nat.zero_add,List.getElem?_append_left qp]; exact hj⟩
 | .cons a b,x,n+1,d,o,s,cs,h,hr=>by
  simp only[pU]at h
  split at h
  ·rename_i d' o' s' h'
   cases h
   obtain⟨c1,c2,rfl,h1,h2⟩:=hr.cons_inv
   obtain⟨σ,y,c3,e1,e2,e3,e4⟩:=UY b x.2 n h' h2
   refine⟨σ,y,c3,e1,e2,e3,fun j v hj => ?_⟩
   have:=h1.len
   rw[List.getElem?_append_right (by omega)]
   have e:a.size+o'+j-c1.length=o'+j:=by omega
   rw[e]; exact e4 j v hj
  ·cases h
 | .expr,.mk k (a,n,m,()) s l,i,d,o,z,cs,h,hr=>by
  obtain⟨c1,r1,rfl,h1,t1⟩:=hr.DA.cons_inv
  obtain⟨c2,r2,rfl,h2,t2⟩:=t1.cons_inv
  obtain⟨c3,r3,rfl,h3,t3⟩:=t2.cons_inv
  obtain⟨c4,r4,rfl,h4,t4⟩:=t3.cons_inv
  have e4:=t4.qF
  subst e4
  have l2:c2.length=3:=h2.len
  obtain⟨v1,rfl⟩:=h1.single rfl
  obtain⟨v3,rfl⟩:=h3.single rfl
  obtain⟨v4,rfl⟩:=h4.single rfl
  match i,h with
  | 0,h=>simp only[pU]at h; cases h; exact⟨i64,_,_,rfl,h1,rfl,fun j v hj=>by match j,hj with | 0,hj=>simpa using hj⟩
  | 1,h => 
   simp only[pU]at h; cases h
   refine⟨G1,_,_,rfl,h2,rfl,fun j v hj => ?_⟩
   obtain⟨qp,_⟩:=List.getElem?_eq_some_iff.1 hj
   rw[show 1+j=j+1 by omega]
   simp only[List.cons_append,List.nil_append,List.getElem?_cons_succ]
   rw[List.getElem?_append_left qp]; exact hj
  | 2,h =>
   simp only[pU]at h; cases h
   refine⟨.str,_,_,rfl,h3,rfl,fun j v hj => ?_⟩
   match j,hj with
   | 0,hj =>
    simp only[List.cons_append,List.nil_append,Nat.add_zero,List.getElem?_cons_succ]
    rw[List.getElem?_append_right (by omega),l2]; simpa using hj
  | 3,h =>
   simp only[pU]at h; cases h
   refine⟨.sl .expr,_,_,rfl,h4,rfl,fun j v hj => ?_⟩
   match j,hj with
   | 0,hj =>
    simp only[List.cons_append,List.nil_append,Nat.add_zero,List.getElem?_cons_succ]
    rw[List.getElem?_append_right (by omega),l2]; simpa using hj
  | n+4,h=>simp[pU]at h
 | .int _,_,_,_,_,_,_,h,_ | .bool,_,_,_,_,_,_,h,_ | .str,_,_,_,_,_,_,h,_ | .sl _,_,_,_,_,_,_,h,_ | .nil,_,_,_,_,_,_,h,_=>by simp[pU]at h
theorem K4{s f:Nat}{x:Option D}{v:Value}{d:Option D}{zL:St}(hi:Inv κ)(hx:∀ y,x=some y→RD κ y v)(h:(zS (ry c s f x) κ.st).leads (d,zL)) :
  qY c.P (do Pure.pure (.value (← Instr.fieldAt s v f))) κ d zL:=by
 unfold ry at h
 split at h
 ·exact absurd h zj
 ·rename_i o n hf
  split at h
  ·rename_i τ y
   split at h
   ·rename_i d' o' n' XX
    cases hb:Nat.beq o o'&&Nat.beq n n' with
    | false=>rw[hb]at h; exact absurd h zj
    | true =>
     rw[hb,cond_true,w8]at h
     obtain⟨rfl,rfl⟩:=h
     simp only[Bool.and_eq_true]at hb
     have e1:o=o':=Nat.eq_of_beq_eq_true hb.1
     subst e1
     cases hx _ rfl with
     | xp _ _ cs blk off we hr hc =>
      obtain⟨σ,z,c2,rfl,g1,g2,g3⟩:=UY τ y f XX hr
      exact qY.pure hi (sq hf κ.w) (.xp σ z c2 blk (off+o) we g1 fun j u hj=>by rw[Nat.add_assoc]; exact hc _ _ (g3 j u hj))
   ·exact absurd h zj
  ·rename_i b off
   rw[w8]at h
   obtain⟨rfl,rfl⟩:=h
   cases hx _ rfl with
   | ptr _ _ blk n d hd hp=>exact qY.pure hi (sq hf κ.w) (.ptr b (off+o) blk n d hd hp)
  ·rename_i b qR e idx off
   rw[w8]at h
   obtain⟨rfl,rfl⟩:=h
   cases hx _ rfl with
   | uk _ _ _ _ _ blk p hold hp =>
    refine qY.pure hi (sq hf κ.w) (.uk b qR e idx (off+o) blk (p+o) hold fun xs h1 h2 => ?_)
    obtain⟨n,h3,h4⟩:=hp xs h1 h2
    exact⟨n,h3,by omega⟩
  ·exact absurd h zj
theorem Es{s f:Nat}{x:Option D}{v:Value}{d:Option D}{zL:St}(hi:Inv κ)(hx:∀ y,x=some y→RD κ y v)(h:(zS (H7 c s f x) κ.st).leads (d,zL)) :
  qY c.P (do Pure.pure (.value (← Instr.field s v f))) κ d zL:=by
 unfold H7 at h
 split at h
 ·rename_i fs hu
  split at h
  ·rename_i fd hf
   split at h
   ·rename_i y
    obtain⟨r,hr,rfl,rfl⟩:=Kc h
    cases hag:y.dS with
    | false=>rw[hag]at hr; cases hr
    | true =>
    rw[hag,cond_true]at hr
    have hy:=hx _ rfl
    have ⟨vs,hv,hvs⟩:∃ vs,v=.agg vs∧xv κ (qq y) vs.toList:=by
     have hfd:=jq hy (by cases y<;>simp[D.dS,D.uy]at hag ⊢)
     cases hy<;>simp[D.dS]at hag
     ·rename_i τ z cs hc
      exact⟨cs.toArray,by simp[pk,hag],by simpa[pk,hag,Value.cells]using hfd⟩
     ·rename_i l vs hl ho hh
      exact⟨vs.toArray,rfl,by simpa[Value.cells]using hfd⟩
    subst hv
    rcases Lt hr hvs (jm hy)with⟨n,ha,hn,hle,hrd⟩ | ⟨u,ha,hu',hrd⟩
    ·refine qY.pure hi ?_ hrd
     simp only[Instr.field,Sem.run_bind,run_underlying hu,Result.andThen_ok,hf,asAgg,Sem.run_pure,part,tc ha,if_true,run_sizeOf hn]
     congr 2
     apply Array.ext'
     simp[Array.toList_extract,List.extract]
    ·refine qY.pure hi ?_ hrd
     have:vs[fd.offset]? = some u:=by simpa using hu'
     simp[Instr.field,run_underlying hu,hf,asAgg,part,tc ha,this]
   ·exact absurd h zj
  ·exact absurd h zj
 ·exact absurd h zj
theorem ur{t e:Nat}(h:lD c t=some e):c.P.underlying t=some (.slice e):=by
 unfold lD at h
 split at h
 ·rename_i e' hu; cases h; exact hu
 ·cases h
theorem vZ{x:Option D}{k:IntKind}{n:Int}{v:Value}(h:asInt x=some (k,n))(hx:∀ y,x=some y→RD κ y v):v=.int k n:=by
 unfold asInt at h
 split at h
 ·cases h; exact(hx _ rfl).eJ
 ·cases h
theorem su{x:Option D}{s:zf}{v:Value}(h:Jn x=some s)(hx:∀ y,x=some y→RD κ y v):v=.string ⟨s.toArray⟩:=by
 unfold Jn at h
 split at h
 ·cases h; exact(hx _ rfl).iU
 ·cases h
theorem sU{x:Option D}{b:Bool}{v:Value}(h:asBool x=some b)(hx:∀ y,x=some y→RD κ y v):v=.bool b:=by
 unfold asBool at h
 split at h
 ·cases h; exact(hx _ rfl).bG
 ·cases h
theorem U9{α:Type}{l:List α}{i:Nat}(h:i<l.length)(d:α):List.getD l i d=l[i]:=by simp[List.getD,List.getElem?_eq_getElem h]
theorem pV{a:Ty}(x:den a):(vP x:Option (den a))=some x:=by simp[vP]
theorem BV{w:World}{ok:Nat→Prop}:∀ (τ:Ty) (e:Ty) (n:Nat) (x:den τ) (cs:List Value) (i:Nat),Dc τ=some (e,n)→Rc w ok τ x cs→i<n →
  ∃ c,Rc w ok e (Bj e τ x i) c∧∀ j v,c[j]? = some v→cs[i*e.size+j]? = some v
 | .cons a b,e,n,x,cs,i,ht,hr,hi=>by
  obtain⟨c1,c2,rfl,h1,h2⟩:=hr.cons_inv
  have key:∀ m,(b=.nil∧m=0∨Dc b=some (a,m))→i<m+1→∃ c,Rc w ok a (Bj a (.cons a b) x i) c∧∀ j v,c[j]? = some v→(c1++c2)[i*a.size+j]? = some v:=by
   intro m hm hi
   cases i with
   | zero =>
    refine⟨c1,by simp only[Bj,pV]; exact h1,fun j v hj => ?_⟩
    rw[Nat.zero_mul,Nat.zero_add,List.getElem?_append_left (List.getElem?_eq_some_iff.1 hj).1]; exact hj
   | succ i =>
    rcases hm with⟨rfl,rfl⟩ | hm
    ·omega
    ·obtain⟨c,g1,g2⟩:=BV b a m x.2 c2 i hm h2 (by omega)
     refine⟨c,g1,fun j v hj => ?_⟩
     have hl:=h1.len
     have:=g2 j v hj
     rw[List.getElem?_append_right (by rw[hl,Nat.add_mul]; omega),hl]
     rw[← this]; congr 1
     rw[Nat.add_mul]; omega
  unfold Dc at ht
  split at ht
  ·cases ht; exact key 0 (.inl ⟨rfl,rfl⟩) (by omega)
  ·split at ht
   ·rename_i e' m hb
    cases hd:decide (a=e')with
    | false=>rw[hd]at ht; cases ht
    | true =>
     rw[hd,cond_true]at ht
     cases ht
     have:=of_decide_eq_true hd
     subst this
     exact key m (.inr hb) hi
   ·cases ht
 | .int _,_,_,_,_,_,ht,_,_=>by cases ht
 | .bool,_,_,_,_,_,ht,_,_=>by cases ht
 | .str,_,_,_,_,_,ht,_,_=>by cases ht
 | .sl _,_,_,_,_,_,ht,_,_=>by cases ht
 | .nil,_,_,_,_,_,ht,_,_=>by cases ht
 | .expr,_,_,_,_,_,ht,_,_=>by cases ht
theorem MM{t n e:Nat}(h:z4C c t=some (n,e)):c.P.underlying t=some (.array n e):=by
 unfold z4C at h
 split at h
 ·rename_i hu; cases h; exact hu
 ·cases h
theorem KZ{t:Nat}{x i:Option D}{k:IntKind}{n:Int}{v u:Value}{d:Option D}{zL:St}(hi:Inv κ)(hx:∀ y,x=some y→RD κ y v)(hy:∀ y,i=some y→RD κ y u)(Qp:asInt i=some (k,n))
  (h:(zS (K9 c t x n) κ.st).leads (d,zL)):qY c.P (do Pure.pure (.value (← Instr.indexAt t v u))) κ d zL:=by
 have hu':=vZ Qp hy
 subst hu'
 unfold K9 at h
 split at h
 ·rename_i m et τ y ha
  have hu:=MM ha
  split at h
  ·rename_i e m' Iv
   cases ht:kT c et e&&Nat.beq m m' with
   | false=>rw[ht]at h; exact absurd h zj
   | true =>
    rw[ht,cond_true,wY]at h
    simp only[Bool.and_eq_true]at ht
    have:=Nat.eq_of_beq_eq_true ht.2
    subst this
    obtain⟨⟨h0,h1⟩,rfl,rfl⟩:=h
    obtain⟨hs,_⟩:=vp ht.1
    cases hx _ rfl with
    | xp _ _ cs blk off we hrc hc =>
     obtain⟨cc,g1,g2⟩:=BV τ e m y cs n.toNat Iv hrc (by omega)
     refine qY.pure hi ?_ (.xp e _ cc blk (off+n.toNat*e.size) we g1 fun j v hj=>by rw[Nat.add_assoc]; exact hc _ v (g2 j v hj))
     simp[Instr.indexAt,asIntOf,run_underlying hu,h0,h1,run_sizeOf hs,vw,Instr.sureAddr]
  ·exact absurd h zj
 ·exact absurd h zj
theorem Kw{t:Nat}{x i:Option D}{v u:Value}{d:Option D}{zL:St}(hi:Inv κ)(hx:∀ y,x=some y→RD κ y v)(hy:∀ y,i=some y→RD κ y u)
  (h:(zS (rQ c t x i) κ.st).leads (d,zL)):qY c.P (do Pure.pure (.value (← Instr.indexAt t v u))) κ d zL:=by
 unfold rQ at h
 split at h
 ·rename_i k n het Qp
  exact KZ hi hx hy Qp h
 ·rename_i et k n het Qp
  have hu:=ur het
  have hu':=vZ Qp hy
  subst hu'
  split at h
  ·rename_i e l
   cases ht:kT c et e with
   | false=>rw[ht]at h; exact absurd h zj
   | true =>
    rw[ht,cond_true,wY]at h
    obtain⟨⟨h0,h1⟩,rfl,rfl⟩:=h
    obtain⟨hs,_⟩:=vp ht
    have qp:n.toNat<List.length l:=by omega
    rcases((hx _ rfl).wK rfl).om with⟨rfl,_⟩ | ⟨blk,off,cap,f,he,we,wD,hh,hc⟩
    ·cases qp
    ·cases he
     rw[U9 qp]
     refine qY.pure hi ?_ (.xp e _ (f n.toNat) blk (off+n.toNat*e.size) we (hh _ qp) fun j v hj=>hc _ qp j v hj)
     simp[Instr.indexAt,asIntOf,run_underlying hu,h0,h1,run_sizeOf hs,vw]
  ·rename_i e l ne
   cases ht:kT c et e with
   | false=>rw[ht]at h; exact absurd h zj
   | true =>
    rw[ht,cond_true,wY]at h
    obtain⟨⟨h0,h1⟩,rfl,rfl⟩:=h
    obtain⟨hs,_⟩:=vp ht
    have qp:n.toNat<List.length l:=by omega
    cases hx _ rfl with
    | xz=>cases qp
    | tight _ _ _ blk off f uj we hh hc =>
     rw[U9 qp]
     refine qY.pure hi ?_ (.xp e _ (f n.toNat) blk (off+n.toNat*e.size) we (hh _ qp) fun j v hj=>hc _ qp j v hj)
     simp[Instr.indexAt,asIntOf,run_underlying hu,h0,h1,run_sizeOf hs,vw]
  ·rename_i b qR e off len
   cases ht:kT c et e with
   | false=>rw[ht]at h; exact absurd h zj
   | true =>
    rw[ht,cond_true,wY]at h
    obtain⟨⟨h0,h1⟩,rfl,rfl⟩:=h
    obtain⟨hs,_⟩:=vp ht
    cases hx _ rfl with
    | ms _ _ _ _ _ cap a hold wD ha sT hm =>
     cases a with
     | none=>have:=ha rfl; omega
     | some p =>
      have hp:=sT p rfl
      obtain⟨blk,o,sp⟩:=p
      simp only at hp
      subst hp
      refine qY.pure hi (v:=.pointer (some ⟨blk,o+n.toNat*e.size,none⟩)) ?_ (.uk b qR e (off+n.toNat) 0 blk _ hold fun xs hb qp => ?_)
      ·simp[Instr.indexAt,asIntOf,run_underlying hu,h0,h1,run_sizeOf hs,vw]
      ·obtain⟨hle,⟨_,_,hv,_⟩ | ⟨ma,n',o',VW,h3,h4,h5,h6,h7⟩⟩:=hm xs hb
       ·cases hv
       ·cases h4
        refine⟨n',h3,?_⟩
        rcases h7 with h7 | h7
        ·omega
        ·subst h7; rw[Nat.add_mul]; rfl
  ·exact absurd h zj
 ·exact absurd h zj
theorem Nt(s:zf){i:Nat}(h:i<s.length):(⟨s.toArray⟩:ByteArray)[i]? = some s[i]:=by
 have jn:(⟨s.toArray⟩:ByteArray).size=s.length:=rfl
 rw[getElem?_pos _ _ (by rw[jn]; exact h)]
 rfl
theorem Fk{t:Nat}{x i:Option D}{v u:Value}{d:Option D}{zL:St}(hi:Inv κ)(hx:∀ y,x=some y→RD κ y v)(hy:∀ y,i=some y→RD κ y u)
  (h:(zS (Hh c t x i) κ.st).leads (d,zL)):qY c.P (do Pure.pure (.value (← Instr.index t v u))) κ d zL:=by
 unfold Hh at h
 split at h
 ·rename_i k n s Qp hs hu
  have hu':=vZ Qp hy
  subst hu'
  have hv:=su hs hx
  subst hv
  rw[wY]at h
  obtain⟨⟨h0,h1⟩,rfl,rfl⟩:=h
  have qp:n.toNat<s.length:=by omega
  rw[U9 qp]
  exact qY.pure hi (by simp[Instr.index,asIntOf,run_underlying hu,h0,Nt s qp]) RD.int
 ·exact absurd h zj
def V7(κ:KS):Option (Option D)→Option Value→Prop
 | none,none=>True
 | some x,some v=>∀ y,x=some y→RD κ y v
 | _,_=>False
theorem UE{d n:Int}{x:Option (Option D)}{v:Option Value}(h:O9 d x=some n)(hx:V7 κ x v):(x=none∧v=none∧n=d)∨(x.isSome∧∃ k,v=some (.int k n)):=by
 cases x with
 | none=>cases v with
  | none=>exact .inl ⟨rfl,rfl,by simpa[O9]using h.symm⟩
  | some v=>exact hx.elim
 | some x=>cases v with
  | none=>exact hx.elim
  | some v =>
   simp only[O9]at h
   split at h
   ·rename_i k i hk; cases h; exact .inr ⟨rfl,k,by rw[vZ hk hx]⟩
   ·cases h
end
end Go.AM
namespace Go.AM
set_option linter.unusedSectionVars false
variable [uA]
section
variable {c:Ctx} {κ:KS}
theorem jY{P:Program}{isS:Bool}{len cap:Nat}{lo hi mx:Option Value}{l h:Int}{m:Nat}
  (hl:(lo=none∧l=0)∨∃ k,lo=some (.int k l)) (hh:(hi=none∧mx=none∧h=len)∨∃ k,hi=some (.int k h))
  (hm:(mx=none∧m=cap)∨∃ k,mx=some (.int k m)) (h0:0≤l) (h1:l≤h) (h2:h≤m) (h3:m≤cap) (w:World) :
  (Instr.sliceBounds isS len cap lo hi mx).run P w=.ok (l.toNat,h.toNat,m) w:=by
 have hh0:(0:Int)≤h:=by omega
 have mh:l≤(h.toNat:Int):=by omega
 rcases hl with⟨rfl,rfl⟩ | ⟨k1,rfl⟩<;>rcases hm with⟨rfl,rfl⟩ | ⟨k3,rfl⟩<;>rcases hh with⟨rfl,hx,rfl⟩ | ⟨k2,rfl⟩ <;>
  first
   | (cases hx; done)
   | (simp[Instr.sliceBounds,run_sliceBound, *]; done)
   | (simp[Instr.sliceBounds,run_sliceBound, *]; rw[run_sliceBound _ _ _ _ _ h0 mh]; rfl)
theorem CK(s:zf)(l h:Int):(⟨s.toArray⟩:ByteArray).extract l.toNat h.toNat=⟨(gY l h s).toArray⟩:=by
 apply ByteArray.ext
 rw[ByteArray.data_extract]
 apply Array.ext'
 simp[gY,List.extract,List.drop_take]
theorem JJ{n:Int}{x:Option (Option D)}{v:Option Value}(h:O9 0 x=some n)(hx:V7 κ x v):(v=none∧n=0)∨∃ k,v=some (.int k n):=by
 rcases UE h hx with⟨_,h1,h2⟩ | ⟨_,h1⟩
 ·exact .inl ⟨h1,h2⟩
 ·exact .inr h1
theorem HP{d n:Int}{x:Option (Option D)}{v:Option Value}(h:O9 d x=some n)(hx:V7 κ x v):(v=none∧n=d)∨∃ k,v=some (.int k n):=by
 rcases UE h hx with⟨_,h1,h2⟩ | ⟨_,h1⟩
 ·exact .inl ⟨h1,h2⟩
 ·exact .inr h1
theorem QW{v:Option Value}(h:V7 κ none v):v=none:=by cases v with | none=>rfl | some _=>exact h.elim
theorem tq{e:Ty}{l:List (den e)}{lo hi:Int}(h0:0≤lo)(h1:lo≤hi)(h2:hi≤(l.length:Int)) :
  (uu lo hi l).length=hi.toNat-lo.toNat∧∀ i (KR:i<(uu lo hi l).length),∃ h:lo.toNat+i<l.length,(uu lo hi l)[i]=l[lo.toNat+i]:=by
 have hlen:(uu lo hi l).length=hi.toNat-lo.toNat:=by simp[uu]; omega
 refine⟨hlen,fun i KR=>⟨by omega,?_⟩⟩
 simp[uu,List.getElem_drop,List.getElem_take]
theorem FX{e:Ty}{l:List (den e)}{lo hi:Int}{blk off cap m:Nat}{f:Nat→List Value}(we:κ.ok blk)
  (hh:∀ i (hi:i<l.length),Rc κ.w κ.ok e l[i] (f i)) (hc:∀ i,i<l.length→∀ j v,(f i)[j]? = some v→κ.w.cell? ⟨blk,off+i*e.size+j,none⟩=some v)
  (h0:0≤lo) (h1:lo≤hi) (h2:hi≤(l.length:Int)) (hm:hi≤(m:Int)) (wD:m≤cap) :
  (∀ i (KR:i<(uu lo hi l).length),Rc κ.w κ.ok e (uu lo hi l)[i] (f (lo.toNat+i))) ∧
  (∀ i,i<(uu lo hi l).length→∀ j v,(f (lo.toNat+i))[j]? = some v →
   κ.w.cell? ⟨blk,(if m=lo.toNat then off else off+lo.toNat*e.size)+i*e.size+j,none⟩=some v)∧(uu lo hi l).length≤m-lo.toNat:=by
 obtain⟨hl,hg⟩:=tq h0 h1 h2
 refine⟨fun i KR => ?_,fun i KR j v hj => ?_,by omega⟩
 ·obtain⟨h3,h4⟩:=hg i KR
  rw[h4]; exact hh _ h3
 ·obtain⟨h3,h4⟩:=hg i KR
  have:=hc _ h3 j v hj
  rw[if_neg (by omega)]
  rw[Nat.add_mul,← Nat.add_assoc]at this
  exact this
theorem DQ{t:Nat}{x:Option D}{lo hi mx:Option (Option D)}{v:Value}{vl vh vm:Option Value}{d:Option D}{zL:St}(hI:Inv κ)(hx:∀ y,x=some y→RD κ y v)
  (hlo:V7 κ lo vl) (hhi:V7 κ hi vh) (hmx:V7 κ mx vm)
  (h:(zS (Hl c t x lo hi mx) κ.st).leads (d,zL)):qY c.P (do Pure.pure (.value (← Instr.sliceAt t v vl vh vm))) κ d zL:=by
 unfold Hl at h
 split at h
 ·rename_i s
  obtain⟨s,rfl⟩:∃ s':zf,s=s':=⟨s,rfl⟩
  split at h
  ·rename_i l hh hu hl hh'
   rw[wY]at h
   obtain⟨⟨h0,h1,h2⟩,rfl,rfl⟩:=h
   have hv:=(hx _ rfl).iU
   subst hv
   have e1:=QW hmx
   subst e1
   refine qY.pure hI ?_ RD.str
   have jn:(⟨s.toArray⟩:ByteArray).size=s.length:=rfl
   have hb:=jY (P:=c.P) (isS:=false) (len:=s.length) (cap:=s.length) (mx:=none) (m:=s.length) (JJ hl hlo)
    (bX (HP hh' hhi) (fun h=>⟨h.1,rfl,h.2⟩) id) (.inl ⟨rfl,rfl⟩) h0 h1 h2 (Nat.le_refl _) κ.w
   simp only[Instr.sliceAt,Sem.run_bind,run_underlying hu,Result.andThen_ok,Instr.slice,Option.isSome_none,Bool.false_eq_true,if_false,jn,hb,CK]
   rfl
  ·exact absurd h zj
 ·rename_i e s
  split at h
  ·rename_i et l hh het hl hh'
   have hu:=ur het
   cases ht:kT c et e with
   | false=>rw[ht]at h; exact absurd h zj
   | true =>
    obtain⟨hs,_⟩:=vp ht
    rw[ht,cond_true]at h
    split at h
    ·rw[wY]at h
     obtain⟨⟨h0,h1,h2⟩,rfl,rfl⟩:=h
     have e1:=QW hmx
     subst e1
     have KU:=JJ hl hlo
     have Yn:(vh=none∧(none:Option Value)=none∧hh=(s.length:Int))∨∃ k,vh=some (.int k hh):=bX (HP hh' hhi) (fun h=>⟨h.1,rfl,h.2⟩) id
     rcases((hx _ rfl).wK rfl).om with⟨rfl,a0,he⟩ | ⟨blk,off,cap,f,he,we,wD,E2,SJ⟩
     ·cases he
      simp only[List.length_nil,Int.cast_ofNat_Int]at h2
      have hb:=jY (P:=c.P) (isS:=true) (len:=0) (cap:=0) (mx:=none) (m:=0) KU Yn (.inl ⟨rfl,rfl⟩) h0 h1 h2 (Nat.le_refl _) κ.w
      have e0:l=0:=by omega
      have e2:hh=0:=by omega
      subst e0 e2
      refine qY.pure hI (v:=.slice a0 0 0) ?_ (.mO rfl (.iE e a0))
      simp[Instr.sliceAt,run_underlying hu,Instr.slice,hb,run_sizeOf hs]
     ·cases he
      obtain⟨k1,k2,k3⟩:=FX (lo:=l) (hi:=hh) (cap:=cap) (m:=cap) we E2 SJ h0 h1 h2 (by omega) (Nat.le_refl _)
      have hb:=jY (P:=c.P) (isS:=true) (len:=s.length) (cap:=cap) (mx:=none) (m:=cap) KU Yn (.inl ⟨rfl,rfl⟩) h0 h1 (by omega) (Nat.le_refl _) κ.w
      have hlen:=(tq h0 h1 h2).1
      refine qY.pure hI ?_ (.mO rfl (.sl e (uu l hh s) blk _ (cap-l.toNat) _ we k3 k1 k2))
      simp only[Instr.sliceAt,Sem.run_bind,run_underlying hu,Result.andThen_ok,Instr.slice,hb,run_sizeOf hs,Sem.run_pure,hlen]
      congr 3
      split<;>simp[vw]
    ·split at h
     ·rename_i mx m km mi hm'
      cases hhs:hi.isSome with
      | false=>rw[hhs]at h; exact absurd h zj
      | true =>
      rw[hhs,cond_true,wY]at h
      obtain⟨⟨h0,h1,rfl,h2⟩,rfl,rfl⟩:=h
      obtain⟨vm,rfl⟩:∃ u,vm=some u:=by cases vm with | none=>exact hmx.elim | some u=>exact⟨u,rfl⟩
      have hvm:=vZ hm' hmx
      subst hvm
      have KU:=JJ hl hlo
      have Yn:(vh=none∧(some (Value.int km hh):Option Value)=none∧hh=(s.length:Int))∨∃ k,vh=some (.int k hh):=by
       rcases UE hh' hhi with⟨g1,_⟩ | ⟨_,g⟩
       ·rw[g1]at hhs; cases hhs
       ·exact .inr g
      have em:((hh.toNat:Nat):Int)=hh:=by omega
      rcases((hx _ rfl).wK rfl).om with⟨rfl,a0,he⟩ | ⟨blk,off,cap,f,he,we,wD,E2,SJ⟩
      ·cases he
       simp only[List.length_nil,Int.cast_ofNat_Int]at h2
       have hb:=jY (P:=c.P) (isS:=true) (len:=0) (cap:=0) (mx:=some (.int km hh)) (m:=hh.toNat) KU Yn (.inr ⟨km,by rw[em]⟩) h0 h1 (by omega) (by omega) κ.w
       have e0:l=0:=by omega
       have e2:hh=0:=by omega
       subst e0 e2
       refine qY.pure hI (v:=.slice a0 0 0) ?_ (.xz e a0)
       simp[Instr.sliceAt,run_underlying hu,Instr.slice,hb,run_sizeOf hs]
      ·cases he
       obtain⟨k1,k2,k3⟩:=FX (lo:=l) (hi:=hh) (cap:=cap) (m:=hh.toNat) we E2 SJ h0 h1 h2 (by omega) (by omega)
       have hb:=jY (P:=c.P) (isS:=true) (len:=s.length) (cap:=cap) (mx:=some (.int km hh)) (m:=hh.toNat) KU Yn (.inr ⟨km,by rw[em]⟩) h0 h1 (by omega) (by omega) κ.w
       have hlen:=(tq h0 h1 h2).1
       refine qY.pure hI ?_ (.tight e (uu l hh s) false blk _ _ nofun we k1 k2)
       simp only[Instr.sliceAt,Sem.run_bind,run_underlying hu,Result.andThen_ok,Instr.slice,hb,run_sizeOf hs,Sem.run_pure,hlen]
       congr 3
       split<;>simp[vw]
     ·exact absurd h zj
  ·exact absurd h zj
 ·rename_i e s ne
  split at h
  ·rename_i et l hh het hl hh'
   have hu:=ur het
   cases ht:kT c et e with
   | false=>rw[ht]at h; exact absurd h zj
   | true =>
    obtain⟨hs,_⟩:=vp ht
    rw[ht,cond_true,wY]at h
    obtain⟨⟨h0,h1,h2⟩,rfl,rfl⟩:=h
    have e1:=QW hmx
    subst e1
    have KU:=JJ hl hlo
    have Yn:(vh=none∧(none:Option Value)=none∧hh=(s.length:Int))∨∃ k,vh=some (.int k hh):=bX (HP hh' hhi) (fun h=>⟨h.1,rfl,h.2⟩) id
    cases hx _ rfl with
    | xz _ a0 =>
     simp only[List.length_nil,Int.cast_ofNat_Int]at h2
     have hb:=jY (P:=c.P) (isS:=true) (len:=0) (cap:=0) (mx:=none) (m:=0) KU Yn (.inl ⟨rfl,rfl⟩) h0 h1 h2 (Nat.le_refl _) κ.w
     have e0:l=0:=by omega
     have e2:hh=0:=by omega
     subst e0 e2
     refine qY.pure hI (v:=.slice a0 0 0) ?_ (.mO rfl (.iE e a0))
     simp[Instr.sliceAt,run_underlying hu,Instr.slice,hb,run_sizeOf hs]
    | tight _ _ _ blk off f uj we E2 SJ =>
     obtain⟨k1,k2,k3⟩:=FX (lo:=l) (hi:=hh) (cap:=s.length) (m:=s.length) we E2 SJ h0 h1 h2 (by omega) (Nat.le_refl _)
     have hb:=jY (P:=c.P) (isS:=true) (len:=s.length) (cap:=s.length) (mx:=none) (m:=s.length) KU Yn (.inl ⟨rfl,rfl⟩) h0 h1 (by omega) (Nat.le_refl _) κ.w
     have hlen:=(tq h0 h1 h2).1
     refine qY.pure hI ?_ (.mO rfl (.sl e (uu l hh s) blk _ (s.length-l.toNat) _ we k3 k1 k2))
     simp only[Instr.sliceAt,Sem.run_bind,run_underlying hu,Result.andThen_ok,Instr.slice,hb,run_sizeOf hs,Sem.run_pure,hlen]
     congr 3
     split<;>simp[vw]
  ·exact absurd h zj
 ·rename_i b qR e off len
  split at h
  ·rename_i et l hh het hl hh'
   have hu:=ur het
   cases ht:kT c et e with
   | false=>rw[ht]at h; exact absurd h zj
   | true =>
    obtain⟨hs,_⟩:=vp ht
    rw[ht,cond_true,wY]at h
    obtain⟨⟨h0,h1,h2⟩,rfl,rfl⟩:=h
    have e1:=QW hmx
    subst e1
    have KU:=JJ hl hlo
    have Yn:(vh=none∧(none:Option Value)=none∧hh=(len:Int))∨∃ k,vh=some (.int k hh):=bX (HP hh' hhi) (fun h=>⟨h.1,rfl,h.2⟩) id
    cases hx _ rfl with
    | ms _ _ _ _ _ cap a hold wD ha sT hm =>
     have hb:=jY (P:=c.P) (isS:=true) (len:=len) (cap:=cap) (mx:=none) (m:=cap) KU Yn (.inl ⟨rfl,rfl⟩) h0 h1 (by omega) (Nat.le_refl _) κ.w
     refine qY.pure hI (v:=.slice (if cap=l.toNat then a else a.map (·.add (l.toNat*e.size))) (hh.toNat-l.toNat) (cap-l.toNat)) ?_ (.ms b qR e _ _ _ _ hold (by omega) ?_ ?_ ?_)
     ·simp only[Instr.sliceAt,Sem.run_bind,run_underlying hu,Result.andThen_ok,Instr.slice,hb,run_sizeOf hs,Sem.run_pure]
     ·intro hn
      split at hn
      ·have:=ha hn; omega
      ·cases a with | none=>have:=ha rfl; omega | some p=>cases hn
     ·intro p hp
      split at hp
      ·exact sT p hp
      ·cases a with
       | none=>cases hp
       | some q =>
        obtain⟨q1,q2,q3⟩:=q
        have:=sT _ rfl
        simp only at this
        subst this
        simp only[Option.map_some,vw,Option.some.injEq]at hp
        subst hp; rfl
     ·intro xs Vt
      obtain⟨hle,⟨rfl,rfl,hv,hp⟩ | ⟨ma,n',o',VW,h3,h4,h5,h6,h7⟩⟩:=hm xs Vt
      ·cases hv
       have e0:l=0:=by omega
       have e2:hh=0:=by omega
       subst e0 e2
       exact⟨by simp,.inl ⟨rfl,rfl,rfl,hp⟩⟩
      ·cases h4
       refine⟨by omega,.inr ?_⟩
       by_cases Uf:cap=l.toNat
       ·refine⟨ma,n',o',0,h3,?_,by omega,?_,.inl rfl⟩
        ·simp[Uf]
        ·have:(off+l.toNat+0)=off+cap:=by omega
         rw[this]; exact h6
       ·refine⟨ma,n',o'+l.toNat*e.size,cap-l.toNat,h3,?_,by omega,?_,.inr ?_⟩
        ·simp[Uf,vw]
        ·have:off+l.toNat+(cap-l.toNat)=off+cap:=by omega
         rw[this]; exact h6
        ·rcases h7 with h7 | h7
         ·omega
         ·rw[h7,Nat.add_mul]
  ·exact absurd h zj
 ·exact absurd h zj
end
end Go.AM
namespace Go.AM
set_option linter.unusedSectionVars false
variable [uA]
section
variable {c:Ctx} {κ:KS}
theorem rS(op:BinOp)(t:Nat)(x y:Operand)(k k':IntKind)(a b:Int)(P:Program)(w:World):(eqGuard op t x y (.int k a) (.int k' b)).run P w=.ok () w:=by
 unfold eqGuard; split<;>simp
theorem Dx(op:BinOp)(t:Nat)(x y:Operand)(a b:ByteArray)(P:Program)(w:World):(eqGuard op t x y (.string a) (.string b)).run P w=.ok () w:=by
 unfold eqGuard; split<;>simp
theorem HH(op:BinOp)(t:Nat)(x y:Operand)(a b:Bool)(P:Program)(w:World):(eqGuard op t x y (.bool a) (.bool b)).run P w=.ok () w:=by
 unfold eqGuard; split<;>simp
theorem yL{k:IntKind}{n:Int}{st zL:St}{d:Option D}:(zS (ib k n) st).leads (d,zL)↔d=some (.zY (.int k) n)∧zL=st:=w8
theorem Xp{b:Bool}{st zL:St}{d:Option D}:(zS (bb b) st).leads (d,zL)↔d=some (.zY .bool b)∧zL=st:=w8
theorem FP{op:BinOp}{k:IntKind}{a b:Int}{d:Option D}{st zL:St}{t:Nat}(h:(zS (FI op k a b) st).leads (d,zL))(hs:Ur op=false) :
  ∃ y v,d=some y∧zL=st∧(binOp op t (.int k a) (.int k b)).run c.P κ.w=.ok v κ.w∧RD κ y v:=by
 cases op<;>simp only[FI]at h<;>try (exact absurd h zj)
 all_goals first
  | (rw[yL]at h; obtain⟨rfl,rfl⟩:=h; exact⟨_,_,rfl,rfl,by simp[binOp,Op.intArith,Op.intBits,nM],RD.int⟩)
  | (rw[Xp]at h; obtain⟨rfl,rfl⟩:=h; exact⟨_,_,rfl,rfl,by simp[binOp,Op.intCmp],RD.bool⟩)
  | (rw[wY]at h; obtain⟨hb,rfl,rfl⟩:=h; exact⟨_,_,rfl,rfl,by simp[binOp,Op.intDiv,hb],RD.int⟩)
theorem DM{op:BinOp}{a b:zf}{d:Option D}{st zL:St}{t:Nat}(h:(zS (DZ op a b) st).leads (d,zL))(hs:Ur op=false) :
  ∃ y v,d=some y∧zL=st∧(binOp op t (.string ⟨a.toArray⟩) (.string ⟨b.toArray⟩)).run c.P κ.w=.ok v κ.w∧RD κ y v:=by
 have jn:∀ s:zf,(⟨s.toArray⟩:ByteArray).size=s.length:=fun _=>rfl
 cases op<;>simp only[DZ]at h<;>try (exact absurd h zj)
 case add =>
  rw[wY]at h; obtain⟨hb,rfl,rfl⟩:=h
  refine⟨_,_,rfl,rfl,?_,RD.str⟩
  have e:(⟨a.toArray⟩++⟨b.toArray⟩:ByteArray)=⟨(cat a b).toArray⟩:=by
   apply ByteArray.ext; rw[ByteArray.data_append]; simp[cat]
  have hn:¬ (IntKind.i64.max<((a.length+b.length:Nat):Int)):=by
   have:IntKind.i64.max=9223372036854775807:=by decide
   omega
  simp only[binOp,Op.stringOp,jn,gt_iff_lt,hn,if_false,e]
  rfl
 all_goals (rw[Xp]at h; obtain⟨rfl,rfl⟩:=h; exact⟨_,_,rfl,rfl,by simp[binOp,Op.stringOp,zH,strLt],RD.bool⟩)
theorem Fb{P:Program}{t:Nat}(hu:P.underlying t=some .bool)(a b:Bool)(w:World):(Op.equal t (.bool a) (.bool b)).run P w=.ok (a==b) w:=by
 unfold Op.equal
 show(Op.equalIn (9999+1) t _ _).run P w=_
 rw[Op.equalIn]
 simp only[Sem.run_bind,run_underlying hu,Result.andThen_ok,Sem.run_pure]
theorem TM{op:BinOp}{t:Nat}{px py:Operand}{x y:Option D}{v u:Value}{d:Option D}{zL:St}(hI:Inv κ)(hx:∀ z,x=some z→RD κ z v)(hy:∀ z,y=some z→RD κ z u)
  (h:(zS (E3 c op t x y) κ.st).leads (d,zL)):qY c.P (do Pure.pure (.value (← (do eqGuard op t px py v u; binOp op t v u)))) κ d zL:=by
 unfold E3 at h
 split at h
 ·rename_i k a k' b hk Cw
  have:=vZ hk hx
  subst this
  have:=vZ Cw hy
  subst this
  split at h
  ·rw[wY]at h
   obtain⟨hb,rfl,rfl⟩:=h
   refine qY.pure hI ?_ RD.int
   simp only[Sem.run_bind,rS,Result.andThen_ok,binOp,Op.shift,if_neg (show ¬ b<0 by omega)]
   rfl
  ·rw[wY]at h
   obtain⟨hb,rfl,rfl⟩:=h
   refine qY.pure hI ?_ RD.int
   simp only[Sem.run_bind,rS,Result.andThen_ok,binOp,Op.shift,if_neg (show ¬ b<0 by omega)]
   rfl
  ·rename_i n1 n2
   cases he:decide (k=k')with
   | false=>rw[he]at h; exact absurd h zj
   | true =>
    have R0:=of_decide_eq_true he
    subst R0
    rw[he,cond_true]at h
    obtain⟨y',v',rfl,rfl,h1,h2⟩:=FP (c:=c) (κ:=κ) (t:=t) h (by cases op<;>first | rfl | (exact absurd rfl n1) | (exact absurd rfl n2))
    exact qY.pure hI (by simp only[Sem.run_bind,rS,Result.andThen_ok,h1]) h2
 ·split at h
  ·rename_i a b ha hb
   have:=su ha hx
   subst this
   have:=su hb hy
   subst this
   cases hs:Ur op with
   | true=>rw[hs]at h; exact absurd h zj
   | false =>
    rw[hs,cond_false]at h
    obtain⟨y',v',rfl,rfl,h1,h2⟩:=DM (c:=c) (κ:=κ) (t:=t) h hs
    exact qY.pure hI (by simp only[Sem.run_bind,Dx,Result.andThen_ok,h1]) h2
  ·split at h
   ·rename_i a b hu ha hb
    have:=sU ha hx
    subst this
    have:=sU hb hy
    subst this
    cases op<;>simp only[Ph]at h<;>try (exact absurd h zj)
    all_goals
     rw[Xp]at h; obtain⟨rfl,rfl⟩:=h
     refine qY.pure hI ?_ RD.bool
     simp only[Sem.run_bind,HH,Result.andThen_ok,binOp,Fb hu,Sem.run_pure]
   ·exact absurd h zj
theorem z2r{op:UnOp}{x:Option D}{v:Value}{d:Option D}{zL:St}(hI:Inv κ)(hx:∀ z,x=some z→RD κ z v)
  (h:(zS (PJ op x) κ.st).leads (d,zL)):qY c.P (do Pure.pure (.value (← Op.unary op v))) κ d zL:=by
 unfold PJ at h
 split at h
 ·split at h
  ·rename_i k n hk
   have:=vZ hk hx
   subst this
   rw[yL]at h
   obtain⟨rfl,rfl⟩:=h
   exact qY.pure hI (by simp[Op.unary,Op.intArith]) RD.int
  ·exact absurd h zj
 ·split at h
  ·rename_i b hb
   have:=sU hb hx
   subst this
   rw[Xp]at h
   obtain⟨rfl,rfl⟩:=h
   exact qY.pure hI (by simp[Op.unary]) RD.bool
  ·exact absurd h zj
 ·split at h
  ·rename_i k n hk
   have:=vZ hk hx
   subst this
   rw[yL]at h
   obtain⟨rfl,rfl⟩:=h
   exact qY.pure hI (by simp[Op.unary,Op.intBits,nM]) RD.int
  ·exact absurd h zj
 ·exact absurd h zj
theorem z2s{t ty:Nat}{ts:Array Nat}{x:Option D}{v:Value}{vs:Array Value}{d:Option D}{zL:St}(hI:Inv κ)(hx:∀ z,x=some z→RD κ z v)(ht:ts[0]? = some t)(hv:vs[0]? = some v)
  (h:(zS (SN c t x) κ.st).leads (d,zL)):qY c.P (do Pure.pure (.value (← Builtin.len_ ts ty vs))) κ d zL:=by
 unfold SN at h
 split at h
 ·rename_i e hu
  have key:∀ (n:Nat) (a:Option Addr) (cap:Nat),v=.slice a n cap→d=some (.zY (.int .i64) (n:Int))→zL=κ.st→qY c.P (do Pure.pure (.value (← Builtin.len_ ts ty vs))) κ d zL:=by
   rintro n a cap rfl rfl rfl
   exact qY.pure hI (by simp[Builtin.len_,ht,hv,run_underlying hu,goInt]) RD.int
  split at h
  ·rename_i e' l
   rw[yL]at h
   rcases((hx _ rfl).wK rfl).om with⟨rfl,a0,he⟩ | ⟨blk,off,cap,f,he,_⟩
   ·cases he; exact key 0 a0 0 rfl h.1 h.2
   ·cases he; exact key _ _ _ rfl h.1 h.2
  ·rename_i e' l ne
   rw[yL]at h
   cases hx _ rfl with
   | xz _ a0=>exact key 0 a0 0 rfl h.1 h.2
   | tight=>exact key _ _ _ rfl h.1 h.2
  ·rw[yL]at h
   cases hx _ rfl
   exact key 0 none 0 rfl h.1 h.2
  ·rw[yL]at h
   cases hx _ rfl
   exact key _ _ _ rfl h.1 h.2
  ·exact absurd h zj
 ·rename_i hu
  split at h
  ·rename_i s hs
   have:=su hs hx
   subst this
   rw[yL]at h
   obtain⟨rfl,rfl⟩:=h
   have jn:(⟨s.toArray⟩:ByteArray).size=s.length:=rfl
   exact qY.pure hI (by simp only[Builtin.len_,ht,hv,Sem.run_bind,run_underlying hu,Result.andThen_ok,goInt,jn,Sem.run_pure]) RD.int
  ·exact absurd h zj
 ·exact absurd h zj
theorem E7{f:Int→Int→Int}{g:Value→Value→Sem Value}{P:Program}(hg:∀ k k' a b,(g (.int k a) (.int k' b)).run P κ.w=.ok (.int k (f a b)) κ.w){x y:Option D}{v u:Value}{d:Option D}{zL:St}
  (hI:Inv κ) (hx:∀ z,x=some z→RD κ z v) (hy:∀ z,y=some z→RD κ z u) (h:(zS (J9 f [x,y]) κ.st).leads (d,zL)) :
  ∃ r,(g v u).run P κ.w=.ok r κ.w∧zL=κ.st∧∀ d',d=some d'→RD κ d' r:=by
 unfold J9 at h
 simp only at h
 split at h
 ·rename_i k a k' b hk Cw
  have:=vZ hk hx
  subst this
  have:=vZ Cw hy
  subst this
  cases he:decide (k=k')with
  | false=>rw[he]at h; exact absurd h zj
  | true =>
   rw[he,cond_true,yL]at h
   obtain⟨rfl,rfl⟩:=h
   exact⟨_,hg k k' a b,rfl,fun d' he=>by cases he; exact RD.int⟩
 ·exact absurd h zj
theorem GL{x:Option D}{i:Nat}{v:Value}{d:Option D}{zL:St}(hI:Inv κ)(hx:∀ z,x=some z→RD κ z v)
  (h:(zS (Wd x i) κ.st).leads (d,zL)):qY c.P (do Pure.pure (.value (← Instr.extract v i))) κ d zL:=by
 unfold Wd at h
 split at h
 ·rename_i vs
  obtain⟨y,hy,rfl,rfl⟩:=Kc h
  cases hx _ rfl with
  | gp _ us hl hh =>
   obtain⟨u,h1,h2⟩:=xv.get (⟨hl,hh⟩:xv κ vs us) hy
   exact qY.pure hI (by simp[Instr.extract,h1]) h2
 ·exact absurd h zj
theorem bQ:∀ {l:List (Option D)} {ds:List D},jE l=some ds→l=ds.map some
 | [],ds,h=>by simp[jE]at h; subst h; rfl
 | some d::r,ds,h=>by
  simp only[jE]at h
  split at h
  ·rename_i l hl; cases h; simp[bQ hl]
  ·cases h
 | none::r,ds,h=>by simp[jE]at h
theorem dB{l:List (Option D)}{ds:List D}{vs:List Value}(h:jE l=some ds)(hl:l.length=vs.length)
  (hr:∀ (i:Nat) (d:D) (v:Value),l[i]? = some (some d)→vs[i]? = some v→RD κ d v):xv κ ds vs:=by
 have:=bQ h
 subst this
 refine⟨by simpa using hl,fun i h1 h2=>hr i _ _ ?_ (List.getElem?_eq_getElem h2)⟩
 simp[List.getElem?_eq_getElem h1]
end
end Go.AM
namespace Go.AM
namespace T
variable {α β γ:Type}
theorem bZ{t:T α}{x y:α}(h:t.leads x)(k:t.leads y):x=y:=by
 induction t with
 | ret a=>exact h.symm.trans k
 | ite b p q ip iq =>
  rcases h with⟨h1,h⟩ | ⟨h1,h⟩<;>rcases k with⟨k1,k⟩ | ⟨k1,k⟩
  ·exact ip h k
  ·rw[h1]at k1; cases k1
  ·rw[h1]at k1; cases k1
  ·exact iq h k
 | zd p t ih=>exact ih h.2 k.2
 | fail=>exact h.elim
theorem zg{t:T α}{f:α→T β}{x:β}:(t.bind f).leads x↔∃ a,t.leads a∧(f a).leads x:=by
 induction t with
 | ret a=>exact⟨fun h=>⟨a,rfl,h⟩,fun⟨b,h,k⟩=>by cases h; exact k⟩
 | ite b p q ip iq =>
  constructor
  ·rintro(⟨h1,h⟩ | ⟨h1,h⟩)
   ·obtain⟨a,k1,k2⟩:=ip.1 h; exact⟨a,.inl ⟨h1,k1⟩,k2⟩
   ·obtain⟨a,k1,k2⟩:=iq.1 h; exact⟨a,.inr ⟨h1,k1⟩,k2⟩
  ·rintro⟨a,⟨h1,k1⟩ | ⟨h1,k1⟩,k2⟩
   ·exact .inl ⟨h1,ip.2 ⟨a,k1,k2⟩⟩
   ·exact .inr ⟨h1,iq.2 ⟨a,k1,k2⟩⟩
 | zd p t ih =>
  constructor
  ·rintro⟨h1,h⟩; obtain⟨a,k1,k2⟩:=ih.1 h; exact⟨a,⟨h1,k1⟩,k2⟩
  ·rintro⟨a,⟨h1,k1⟩,k2⟩; exact⟨h1,ih.2 ⟨a,k1,k2⟩⟩
 | fail=>exact⟨fun h=>h.elim,fun⟨_,h,_⟩=>h.elim⟩
open Classical in
noncomputable def run:T α→Option α
 | ret a=>some a
 | ite b t e=>bif b then t.run else e.run
 | zd p t=>if p then t.run else none
 | fail=>none
@[simp] theorem z7(a:α):(ret a).run=some a:=rfl
@[simp] theorem zbc:(fail:T α).run=none:=rfl
theorem run_ite(b:Bool)(t e:T α):(ite b t e).run=if b=true then t.run else e.run:=by cases b<;>rfl
@[simp] theorem zy(t e:T α):(ite true t e).run=t.run:=rfl
@[simp] theorem zr(t e:T α):(ite false t e).run=e.run:=rfl
theorem zc{p:Prop}(h:p)(t:T α):(zd p t).run=t.run:=by simp only[run,if_pos h]
theorem za{b:Bool}(h:b=true)(t e:T α):(ite b t e).run=t.run:=by rw[h]; rfl
theorem z8{b:Bool}(h:b=false)(t e:T α):(ite b t e).run=e.run:=by rw[h]; rfl
theorem vU{t:T α}{x:α}:t.run=some x↔t.leads x:=by
 induction t with
 | ret a=>simp[run,leads]
 | ite b p q ip iq=>cases b<;>simp[run,leads,ip,iq]
 | zd p t ih=>by_cases h:p<;>simp[run,leads,h,ih]
 | fail=>simp[run,leads]
theorem run_bind(t:T α)(f:α→T β):(t.bind f).run=t.run.bind fun a=>(f a).run:=by
 induction t with
 | ret a=>rfl
 | ite b p q ip iq=>cases b<;>simp[run,bind,ip,iq]
 | zd p t ih=>by_cases h:p<;>simp[run,bind,h,ih]
 | fail=>rfl
theorem z6{t:T α}{a:α}(h:t.run=some a)(f:α→T β):(t.bind f).run=(f a).run:=by rw[run_bind,h]; rfl
section loop
variable {σ ρ:Type} (r:σ→T (σ⊕ρ))
inductive Iter:Nat→σ→ρ→Prop
 | done {s:σ} {x:ρ} (h:(r s).leads (.inr x)):Iter 0 s x
 | step {n:Nat} {s s':σ} {x:ρ} (h:(r s).leads (.inl s')) (k:Iter n s' x):Iter (n+1) s x
theorem Iter.det{r:σ→T (σ⊕ρ)}{n m:Nat}{s:σ}{x y:ρ}(h:Iter r n s x)(k:Iter r m s y):x=y:=by
 induction h generalizing m y with
 | done h =>
  cases k with
  | done k=>have:=bZ h k; cases this; rfl
  | step k _=>have:=bZ h k; cases this
 | step h _ ih =>
  cases k with
  | done k=>have:=bZ h k; cases this
  | step k k2=>have:=bZ h k; cases this; exact ih k2
open Classical in
noncomputable def loop (s:σ):T ρ:=if h:∃ x n,Iter r n s x then .ret h.choose else .fail
theorem iG{s:σ}{x:ρ}:(loop r s).leads x↔∃ n,Iter r n s x:=by
 unfold loop
 split
 ·rename_i h
  obtain⟨n,hn⟩:=h.choose_spec
  constructor
  ·intro hx; cases hx; exact⟨n,hn⟩
  ·rintro⟨m,hm⟩; exact hn.det hm
 ·rename_i h
  exact⟨fun k=>k.elim,fun⟨n,hn⟩=>h ⟨x,n,hn⟩⟩
theorem ub{r:σ→T (σ⊕ρ)}(I:σ→Prop)(μ:σ→Nat)(f:σ→ρ)
  (h:∀ s,I s→(∃ s',(r s).run=some (.inl s')∧I s'∧μ s'<μ s∧f s'=f s)∨(r s).run=some (.inr (f s))) {s:σ} (hs:I s):(loop r s).run=some (f s):=by
 rw[vU,iG]
 generalize hm:μ s=m
 induction m using Nat.strongRecOn generalizing s with
 | _ m ih =>
  rcases h s hs with⟨s',h1,h2,h3,h4⟩ | h1
  ·obtain⟨n,hn⟩:=ih (μ s') (by omega) h2 rfl
   exact⟨n+1,.step (vU.1 h1) (h4▸hn)⟩
  ·exact⟨0,.done (vU.1 h1)⟩
theorem qC{r:σ→T (σ⊕ρ)}{s s':σ}(h:(r s).run=some (.inl s')):(loop r s).run=(loop r s').run:=by
 have h':=vU.1 h
 apply Option.ext
 intro x
 show(loop r s).run=some x↔(loop r s').run=some x
 rw[vU,vU,iG,iG]
 constructor
 ·rintro⟨n,hn⟩
  cases hn with
  | done k=>have:=bZ h' k; cases this
  | step k k2=>have:=bZ h' k; cases this; exact⟨_,k2⟩
 ·rintro⟨n,hn⟩; exact⟨n+1,.step h' hn⟩
theorem qf{r:σ→T (σ⊕ρ)}{s:σ}{x:ρ}(h:(r s).run=some (.inr x)):(loop r s).run=some x:=by
 rw[vU,iG]; exact⟨0,.done (vU.1 h)⟩
end loop
section fix
variable {σ ρ:Type} (b:(σ→T ρ)→σ→T ρ)
def MC:Nat→σ→T ρ
 | 0,_=>.fail
 | n+1,x=>b (MC n) x
open Classical in
noncomputable def fix (x:σ):T ρ:=if h:∃ y n,∀ m,n≤m→(MC b m x).leads y then .ret h.choose else .fail
theorem Wl{x:σ}{y:ρ}:(fix b x).leads y↔∃ n,∀ m,n≤m→(MC b m x).leads y:=by
 unfold fix
 split
 ·rename_i h
  obtain⟨n,hn⟩:=h.choose_spec
  constructor
  ·intro hx; cases hx; exact⟨n,hn⟩
  ·rintro⟨k,hk⟩; exact bZ (hn (max n k) (by omega)) (hk (max n k) (by omega))
 ·rename_i h
  exact⟨fun k=>k.elim,fun⟨n,hn⟩=>h ⟨y,n,hn⟩⟩
theorem y4{b:(σ→T ρ)→σ→T ρ}(I:σ→Prop)(μ:σ→Nat)(f:σ→ρ)
  (h:∀ x,I x→∀ g:σ→T ρ,(∀ y,I y→μ y<μ x→(g y).run=some (f y))→(b g x).run=some (f x)) {x:σ} (hx:I x):(fix b x).run=some (f x):=by
 rw[vU,Wl]
 refine⟨μ x+1,fun m hm => ?_⟩
 induction m generalizing x with
 | zero=>omega
 | succ m ih =>
  rw[← vU]
  refine h x hx (MC b m) fun y hy qp => ?_
  rw[vU]
  exact ih hy (by omega)
end fix
def fI:T α→Option Prop
 | ret _=>none
 | ite b t e=>match t.fI,e.fI with
  | none,none=>none
  | some p,none=>some (b=true→p)
  | none,some q=>some (b=false→q)
  | some p,some q=>some ((b=true→p)∧(b=false→q))
 | zd p t=>match t.fI with
  | none=>some p
  | some q=>some (p∧q)
 | fail=>some False
def val(d:α):T α→α
 | ret a=>a
 | ite b t e=>bif b then t.val d else e.val d
 | zd _ t=>t.val d
 | fail=>d
def flat(d:α)(t:T α):T α:=match t.fI with
 | none=>.ret (t.val d)
 | some p=>.zd p (.ret (t.val d))
def VY(t:T α):Prop:=match t.fI with | none=>True | some p=>p
theorem JT(d:α)(t:T α)(x:α):t.leads x↔t.VY∧t.val d=x:=by
 induction t with
 | ret a=>simp[leads,VY,fI,val]
 | ite b p q ip iq =>
  cases b
  ·simp only[leads,Bool.false_eq_true,false_and,true_and,false_or,val,cond_false,iq]
   unfold VY
   simp only[fI]
   cases p.fI<;>cases q.fI<;>simp
  ·simp only[leads,true_and,Bool.true_eq_false,false_and,or_false,val,cond_true,ip]
   unfold VY
   simp only[fI]
   cases p.fI<;>cases q.fI<;>simp
 | zd p t ih =>
  simp only[leads,ih,val]
  unfold VY
  simp only[fI]
  cases t.fI<;>simp[and_assoc]
 | fail=>simp[leads,VY,fI]
end T
abbrev zt(x:Int):Int:=IntKind.wrap .i64 x
abbrev zw(x:Int):Int:=IntKind.wrap .u64 x
abbrev qD(x:Int):Int:=IntKind.wrap .u32 x
abbrev Lb(x:Int):Int:=IntKind.wrap .u8 x
def zh(qR off len n:Nat):Prop:=qR=n∧off=0∧len=n
def zi(i:Int)(n:Nat):Prop:=0≤i∧i<(n:Int)
def iM(qR kv idx n:Nat):Prop:=qR=kv∧idx<n
def xC(qR kv off len n m bytes:Nat):Prop:=qR=kv∧off=0∧len=n∧(n+m)*bytes≤140737488355328
def nh(l h:Int)(n:Nat):Prop:=0≤l∧l≤h∧h≤(n:Int)
def kB(l:zf):Nat→zf
 | 0=>[]
 | c+1=>l++kB l c
def JG(u:Nat):zf:=if h:u<10 then[UInt8.ofNat (48+u)]else JG (u / 10)++[UInt8.ofNat (48+u % 10)]
termination_by u
decreasing_by omega
def pw(n:Int):zf:=if n<0 then 45::JG n.natAbs else JG n.toNat
def Pq:zf→zf→Int
 | [],sub=>if sub.isEmpty then 0 else -1
 | b::l,sub=>if sub.isPrefixOf (b::l)then 0 else if Pq l sub == -1 then -1 else Pq l sub+1
def Tj(s sep:zf):zf×zf×Bool:=if 0≤Pq s sep then(s.take (Pq s sep).toNat,s.drop ((Pq s sep).toNat+sep.length),true)else(s,[],false)
def z0t(s p:zf):zf:=if List.isPrefixOf p s=true then s.drop p.length else s
def z47(v v' o l n:Nat):Prop:=v=v'∧o+l≤n
def XG(n m:Int)(bytes:Nat):Prop:=0≤n∧n≤m∧m*bytes≤140737488355328∧m≤140737488355328
def nth{α:Type}(l:List α)(i:Int)(d:α):α:=List.getD l i.toNat d
def xm{α:Type}(l:List α)(i:Nat)(d:α):α:=List.getD l i d
def wB(s:zf)(i:Int):Int:=((List.getD s i.toNat 0).toNat:Int)
def DK(k:IntKind)(x y:Int):Int:=nM k (· &&& ·) x y
def gK(k:IntKind)(x y:Int):Int:=nM k (· ||| ·) x y
def EG(k:IntKind)(x y:Int):Int:=nM k (· ^^^ ·) x y
theorem nw{v v' i n:Nat}:iM v v' i n↔v=v'∧i<n:=Iff.rfl
theorem Ta{l h:Int}{n:Nat}:nh l h n↔0≤l∧l≤h∧h≤(n:Int):=Iff.rfl
def z1a(l:List Int):T (zf×Unit):=.zd ((∀ n∈l,(0:Int)≤n∧n<256)∧List.length l≤140737488355328) (.ret (qP l,()))
end Go.AM
namespace Go.AM
namespace T
variable {α β:Type}
attribute [simp] run_bind
@[simp] theorem yu(b:Bool)(t e:T α):(ite b t e).run=if b=true then t.run else e.run:=run_ite b t e
@[simp] theorem qG{i:Int}{n:Nat}(t:T α)(h1:0≤i)(h2:i<(n:Int)):(zd (zi i n) t).run=t.run:=zc ⟨h1,h2⟩ t
@[simp] theorem jF{v v' i n:Nat}(t:T α)(h1:v=v')(h2:i<n):(zd (iM v v' i n) t).run=t.run:=zc ⟨h1,h2⟩ t
@[simp] theorem xc{v v' o l n m b:Nat}(t:T α)(h1:v=v')(h2:o=0)(h3:l=n)(h4:(n+m)*b≤140737488355328):(zd (xC v v' o l n m b) t).run=t.run:=zc ⟨h1,h2,h3,h4⟩ t
@[simp] theorem ze{v o l n:Nat}(t:T α)(h1:v=n)(h2:o=0)(h3:l=n):(zd (zh v o l n) t).run=t.run:=zc ⟨h1,h2,h3⟩ t
@[simp] theorem od{l h:Int}{n:Nat}(t:T α)(h1:0≤l)(h2:l≤h)(h3:h≤(n:Int)):(zd (nh l h n) t).run=t.run:=zc ⟨h1,h2,h3⟩ t
@[simp] theorem run_mk{n m:Int}{b:Nat}(t:T α)(h1:0≤n)(h2:n≤m)(h3:m*b≤140737488355328)(h4:m≤140737488355328):(zd (XG n m b) t).run=t.run:=zc ⟨h1,h2,h3,h4⟩ t
@[simp] theorem z2X{v v' o l n:Nat}(t:T α)(h1:v=v')(h2:o+l≤n):(zd (z47 v v' o l n) t).run=t.run:=zc ⟨h1,h2⟩ t
@[simp] theorem zx{a b:Nat}(t:T α)(h:a=b):(zd (a=b) t).run=t.run:=zc h t
@[simp] theorem zD{a b:Nat}(t:T α)(h:a≤b):(zd (a≤b) t).run=t.run:=zc h t
@[simp] theorem j4{a b:Int}(t:T α)(h:a≤b):(zd (a≤b) t).run=t.run:=zc h t
@[simp] theorem vj{a b:Int}(t:T α)(h:a≠b):(zd (a≠b) t).run=t.run:=zc h t
@[simp] theorem zM(t:T α):(zd True t).run=t.run:=zc trivial t
end T
@[simp] theorem zN{x:Int}(h1 : -9223372036854775808≤x)(h2:x≤9223372036854775807):zt x=x:=IntWalk.i64_in x ⟨h1,h2⟩
@[simp] theorem TJ{x:Int}(h1:0≤x)(h2:x≤255):Lb x=x:=IntWalk.u8_in x ⟨h1,h2⟩
@[simp] theorem XW{x:Int}(h1:0≤x)(h2:x≤4294967295):qD x=x:=IntWalk.u32_in x ⟨h1,h2⟩
@[simp] theorem qw{x:Int}(h1:0≤x)(h2:x≤18446744073709551615):zw x=x:=IntWalk.u64_in x ⟨h1,h2⟩
theorem fp(x:Int):qD x=x % 4294967296:=IntKind.wrap_u32 x
theorem Qq(x:Int):zw x=x % 18446744073709551616:=IntKind.wrap_u64 x
theorem CW{α:Type}(l:List α)(d:α){i:Int}(h0:0≤i)(hi:i<(l.length:Int)):l.drop i.toNat=nth l i d::l.drop (i+1).toNat:=by
 unfold nth
 have qp:i.toNat<l.length:=by omega
 have e:(i+1).toNat=i.toNat+1:=by omega
 rw[e,List.drop_eq_getElem_cons qp]
 simp[List.getD_eq_getElem?_getD,qp]
theorem OP{α:Type}(l:List α){i:Int}(hi:¬ i<(l.length:Int)):l.drop i.toNat=[]:=List.drop_eq_nil_of_le (by omega)
namespace T
variable {σ ρ α β:Type}
theorem mJ{r:σ→T (σ⊕ρ)}(l:List α)(d:α)(e:β→Int→σ)(I:β→List α→Prop)(f:List α→β→ρ)
  (step:∀ (b:β) (x:α) (xs:List α) (i:Int),0≤i→i<(l.length:Int)→nth l i d=x→I b (x::xs) →
   (∃ b',(r (e b i)).run=some (.inl (e b' (i+1)))∧I b' xs∧f xs b'=f (x::xs) b)∨(r (e b i)).run=some (.inr (f (x::xs) b)))
  (done:∀ b,I b []→(r (e b (l.length:Int))).run=some (.inr (f [] b))) {b:β} (hI:I b l):(loop r (e b 0)).run=some (f l b):=by
 have key:∀ (xs:List α) (i:Nat) (b:β),l.drop i=xs→i≤l.length→I b xs→(loop r (e b (i:Int))).run=some (f xs b):=by
  intro xs
  induction xs with
  | nil =>
   intro i b hd hi hb
   have:i=l.length:=by have:=List.drop_eq_nil_iff.1 hd; omega
   subst this
   exact qf (done b hb)
  | cons x xs ih =>
   intro i b hd hi hb
   have qp:i<l.length:=by
    rcases Nat.lt_or_ge i l.length with h | h
    ·exact h
    ·rw[List.drop_eq_nil_of_le h]at hd; cases hd
   have yM:=CW l d (i:=(i:Int)) (by omega) (by omega)
   have e1:((i:Int)+1).toNat=i+1:=by omega
   simp only[Int.toNat_natCast,e1]at yM
   rw[hd]at yM
   obtain⟨h1,h2⟩:=List.cons.inj yM
   rcases step b x xs i (by omega) (by omega) (by rw[h1]) hb with⟨b',g1,g2,g3⟩ | g1
   ·rw[qC g1,← g3]
    have:=ih (i+1) b' h2.symm (by omega) g2
    simpa using this
   ·exact qf g1
 exact key l 0 b (by simp) (Nat.zero_le _) hI
end T
end Go.AM