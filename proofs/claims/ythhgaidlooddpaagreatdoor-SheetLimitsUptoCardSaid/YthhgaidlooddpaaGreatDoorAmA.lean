/-
  The abstract machine, part A: texts of our own, the same for each claim.
-/
import Derived.WalkKit
import Derived.Laws.StructEq
set_option linter.unusedVariables false
namespace Go.AM
theorem da{a b c d:Prop}(h:a\/b)(f:a->c)(g:b->d):c\/d:=by grind
abbrev zf:=List UInt8
inductive Ty where
 | int (k:IntKind) | bool | str | sl (e:Ty) | nil | cons (a b:Ty) | expr
 deriving DecidableEq
inductive Expr where
 | mk (kind:Int) (num:Bool×List Int×List Int×Unit) (name:zf) (kids:List Expr)
def Expr.kind:Expr->Int | .mk k _ _ _=>k
def Expr.num:Expr->Bool×List Int×List Int×Unit | .mk _ n _ _=>n
def Expr.name:Expr->zf | .mk _ _ n _=>n
def Expr.kids:Expr->List Expr | .mk _ _ _ l=>l
@[reducible] def den:Ty->Type
 | .int _=>Int
 | .bool=>Bool
 | .str=>zf
 | .sl e=>List (den e)
 | .nil=>Unit
 | .cons a b=>den a×den b
 | .expr=>Expr
abbrev u32:Ty:=.int .u32
abbrev i64:Ty:=.int .i64
abbrev JF:Ty:=.cons .bool (.cons (.sl u32) (.cons (.sl u32) .nil))
abbrev tS:Ty:=.cons i64 (.cons JF (.cons .str (.cons (.sl .expr) .nil)))
def Expr.Iz(e:Expr):den tS:=(e.kind,e.num,e.name,e.kids,())
def Expr.Dq(x:den tS):Expr:=.mk x.1 x.2.1 x.2.2.1 x.2.2.2.1
def Ty.size:Ty->Nat
 | .int _ | .bool | .str | .sl _=>1
 | .nil=>0
 | .cons a b=>a.size+b.size
 | .expr=>6
def Ty.isAgg:Ty->Bool
 | .nil | .cons _ _ | .expr=>true
 | _=>false
def zj:(τ:Ty)->den τ
 | .int _=>(0:Int)
 | .bool=>false
 | .str=>([]:zf)
 | .sl e=>([]:List (den e))
 | .nil=>()
 | .cons a b=>(zj a,zj b)
 | .expr=>.mk 0 (false,[],[],()) [] []
inductive D where
 | zD (τ:Ty) (x:den τ)
 | tight (e:Ty) (l:List (den e)) (ne:Bool)
 | xo | kG | qP | vC | vB
 | ptr (b off:Nat)
 | qN (τ:Ty) (x:den τ)
 | vU (b qw:Nat) (e:Ty) (idx off:Nat)
 | ms (b qw:Nat) (e:Ty) (off len:Nat)
 | qS (f:Nat) (cap:List D)
 | agg (cs:List D)
 | kY (vs:List D)
 | iface (t:Nat) (d:D)
 | pK
 | kf (b T:Nat)
 | bj (T:Nat)
inductive jW where
 | dead
 | var (d:D)
 | arr (qw:Nat) (e:Ty) (xs:List (den e))
abbrev St:=List jW
inductive T(α:Type) where
 | ret (a:α)
 | ite (b:Bool) (t e:T α)
 | zA (p:Prop) (t:T α)
 | fail
namespace T
variable {α β:Type}
def bind:T α->(α->T β)->T β
 | ret a,k=>k a
 | ite b t e,k=>ite b (t.bind k) (e.bind k)
 | zA p t,k=>zA p (t.bind k)
 | fail,_=>fail
def Js:Option α->T α
 | some a=>ret a
 | none=>fail
def leads:T α->α->Prop
 | ret a,x=>a=x
 | ite b t e,x=>(b=true/\t.leads x)\/(b=false/\e.leads x)
 | zA p t,x=>p/\t.leads x
 | fail,_=>False
def wp(Q:α->Prop):T α->Prop
 | ret a=>Q a
 | ite b t e=>(b=true->t.wp Q)/\(b=false->e.wp Q)
 | zA p t=>p/\t.wp Q
 | fail=>False
end T
abbrev Fr:=List (Nat×Option D)
def Fr.get:Fr->Nat->Option D
 | [],_=>none
 | (t,d)::r,s=>bif Nat.beq t s then d else Fr.get r s
def Fr.put(fr:Fr)(dst:Option Nat)(d:Option D):Fr :=
 match dst with
 | some t=>(t,d)::fr
 | none=>fr
abbrev Kn:=List (Nat×Option Bool)
def Kn.get:Kn->Nat->Option Bool
 | [],_=>none
 | (t,b)::r,s=>bif Nat.beq t s then b else Kn.get r s
inductive Ku where
 | ret (ds:List D)
 | kb (d:D)
inductive Zm where
 | rp (τ:Ty) | im (τ:Ty)
inductive sn where
 | ty (τ:Ty) | rp (τ:Ty) | qS (f:Nat) (caps:List Zm)
structure Sig where
 params:List sn
 res:List Ty
structure Ctx where
 P:Program
 xid:Nat
 sig:Nat->List D->Option Sig
 fn:Nat->List D->St->T (Ku×St)
 ro:Nat->Bool
 /-- Blocks that a call leaves as they are. -/
 free:Nat->List D->St->List Nat
 PA:∀ (g:Nat) (args:List D) (st:St) (rs:Ku) (zq:St) (b:Nat),(fn g args st).leads (rs,zq)->b∈free g args st->zq[b]? = st[b]?
inductive Ex where
 | normal | exit (id:Nat) | ret | kb (d:D)
class pe where
 u8:Nat
def z2S[pe](e:Ty)(t:Nat):Bool:=match e with
 | .int .u8=>Nat.beq t pe.u8
 | _=>true
def z1U[pe](e:Ty)(t:Nat):Prop:=e=.int .u8->t=pe.u8
section ops
variable (c:Ctx)
variable [pe]
def eE(t:Nat):Option Nat:=(c.P.info? t).map (·.size)
def iv(t:Nat):Option Nat:=(c.P.info? t).map (·.bytes)
def G6(t:Nat):Option Bool:=match c.P.underlying t with | some (.struct _) | some (.array _ _)=>some true | some _=>some false | none=>none
def bR:List (Option Ty)->Option Ty
 | []=>some .nil
 | some a::r=>match bR r with | some b=>some (.cons a b) | none=>none
 | none::_=>none
def Yb:Nat->Nat->Option Ty
 | 0,_=>none
 | n+1,t=>bif Nat.beq t c.xid then some .expr else
  match c.P.underlying t with
  | some (.int k)=>some (.int k)
  | some .bool=>some .bool
  | some .string=>some .str
  | some (.slice e)=>match Yb n e with | some a=>some (.sl a) | none=>none
  | some (.struct fs)=>bR (fs.toList.map λf=>Yb n f.type)
  | some (.array k e)=>bR (List.replicate k (Yb n e))
  | _=>none
def jK(t:Nat)(τ:Ty):Bool:=z2S τ t&&(match eE c t with | some n=>Nat.beq n τ.size | none=>false)&&(match G6 c t with | some b=>b==τ.isAgg | none=>false)
def mT:Value->Option D
 | .int k n=>some (.zD (.int k) n)
 | .bool b=>some (.zD .bool b)
 | .string s=>some (.zD .str s.data.toList)
 | .slice none 0 0=>some .xo
 | .pointer none=>some .kG
 | .nilFunc=>some .vC
 | .nilIface=>some .qP
 | .map none=>some .vB
 | _=>none
def u6:List (Option D)->Option (List D)
 | []=>some []
 | some d::r=>match u6 r with | some l=>some (d::l) | none=>none
 | none::_=>none
def Qf:Value->Option D
 | .agg cs=>match u6 (cs.toList.map mT)with | some l=>some (.agg l) | none=>none
 | v=>mT v
def flat:(τ:Ty)->den τ->List D
 | .int k,x=>[.zD (.int k) x]
 | .bool,x=>[.zD .bool x]
 | .str,x=>[.zD .str x]
 | .sl e,x=>[.zD (.sl e) x]
 | .nil,_=>[]
 | .cons a b,x=>flat a x.1++flat b x.2
 | .expr,x=>[.zD i64 x.kind,.zD .bool x.num.1,.zD (.sl u32) x.num.2.1,.zD (.sl u32) x.num.2.2.1,.zD .str x.name,.zD (.sl .expr) x.kids]
def qe:D->List D
 | .zD τ x=>flat τ x
 | .agg cs=>cs
 | .kY _=>[]
 | d=>[d]
def D.isAgg:D->Bool
 | .agg _=>true
 | _=>false
def D.bI:D->Bool
 | .zD τ _=>τ.isAgg
 | .agg _=>true
 | _=>false
def D.z7Q:D->Bool
 | .zD τ _=>τ.isAgg
 | .agg _=>true
 | _=>false
def yR:List D->Option Nat
 | .bj T::_=>some T
 | .kf _ T::_=>some T
 | _=>none
def D.typed:D->Option Nat
 | .agg l=>yR l
 | _=>none
def iu(d d':D):Bool:=match d'.typed with
 | none=>true
 | some T=>match d.typed with | some T'=>Nat.beq T T' | none=>false
def D.uj:D->Bool
 | .kY _=>true
 | _=>false
def wv{a b:Ty}(x:den a):Option (den b):=if h:a=b then some (h▸x)else none
def cj(e:Ty):Nat->Ty
 | 0=>.nil
 | n+1=>.cons e (cj e n)
def Ga:Ty->Option (Ty×Nat)
 | .cons e r=>match r with
  | .nil=>some (e,1)
  | r=>match Ga r with
   | some (e',n)=>bif decide (e=e')then some (e,n+1)else none
   | none=>none
 | _=>none
def nJ(e:Ty):(τ:Ty)->den τ->Nat->den e
 | .cons _ _,x,0=>match(wv x.1:Option (den e))with | some y=>y | none=>zj e
 | .cons _ b,x,i+1=>nJ e b x.2 i
 | _,_,_=>zj e
def IT{e:Ty}(f:Nat->den e):(n:Nat)->Nat->den (cj e n)
 | 0,_=>()
 | n+1,k=>(f k,IT f n (k+1))
def dh(τ:Ty):D->Option (den τ)
 | .zD σ x=>wv x
 | .tight e l _=>wv (a:=.sl e) l
 | .xo=>match τ with | .sl e=>some ([]:List (den e)) | _=>none
 | _=>none
def uS:(τ:Ty)->List D->Option (den τ×List D)
 | .int k,d::r=>match dh (.int k) d with | some x=>some (x,r) | none=>none
 | .bool,d::r=>match dh .bool d with | some x=>some (x,r) | none=>none
 | .str,d::r=>match dh .str d with | some x=>some (x,r) | none=>none
 | .sl e,d::r=>match dh (.sl e) d with | some x=>some (x,r) | none=>none
 | .nil,r=>some ((),r)
 | .cons a b,r=>match uS a r with
  | some (x,r')=>match uS b r' with | some (y,r'')=>some ((x,y),r'') | none=>none
  | none=>none
 | .expr,[]=>none
 | .expr,d::r=>match dh i64 d with
  | none=>none
  | some k=>match r with
   | d1::d2::d3::d4::d5::r' =>
    match dh .bool d1,dh (.sl u32) d2,dh (.sl u32) d3,dh .str d4,dh (.sl .expr) d5 with
    | some a,some n,some m,some s,some l=>some (Expr.mk k (a,n,m,()) s l,r')
    | _,_,_,_,_=>none
   | _=>none
 | _,[]=>none
def cN(τ:Ty)(d:D):Option (den τ) :=
 match d with
 | .zD σ x=>wv x
 | d=>bif (d.isAgg==τ.isAgg) && !d.uj then match uS τ (qe d)with
   | some (x,[])=>some x
   | _=>none
  else none
def mb(st:St):D->T D
 | .ms b qw e off len=>match st[b]? with
  | some (.arr jv e' xs)=>if h:e'=e then .zA (qw=jv) (.ret (.zD (.sl e) (h▸((xs.take (off+len)).drop off:List (den e')))))else .fail
  | _=>.fail
 | d=>.ret d
def UD(st:St):List D->T (List D)
 | []=>.ret []
 | d::r=>(mb st d).bind λx=>(UD st r).bind λl=>.ret (x::l)
def snap(st:St):D->T D
 | .agg cs=>(UD st cs).bind λl=>.ret (.agg l)
 | d=>mb st d
def Z7(st:St)(τ:Ty)(d:D):T (den τ):=(snap st d).bind λx=>.Js (cN τ x)
def JP:D->Bool | .ms .. => true | _=>false
inductive gU where
 | val (t:T (Option D))
 | rd (k:St->T (Option D))
 | wr (k:St->T (Option D×St))
def val(d:D):gU:=.val (.ret (some d))
def T1(d:Option D):gU:=match d with | some d=>.val (.ret (some d)) | none=>.val .fail
def bad:gU:=.val .fail
def z2r(t:Nat):Bool:=match c.P.underlying t with
 | some (.struct fs)=>match fs[0]? with
  | some fd=>match c.P.underlying fd.type with | some (.pointer e)=>Nat.beq e t | _=>false
  | none=>false
 | _=>false
def ND(t:Nat)(d:D):D:=match d with
 | .agg (.kG::r)=>bif z2r c t then .agg (.bj t::r)else .agg (.kG::r)
 | d=>d
def Qj(t:Nat):Option D:=match c.P.info? t with
 | some i=>match i.zero with | some z=>(match Qf z with | some d=>some (ND c t d) | none=>none) | none=>none
 | none=>none
def J4(l:List D)(off n:Nat):Option (List D) :=
 bif Nat.ble (off+n) l.length then some ((l.drop off).take n)else none
def Dg(t:Nat)(d:D)(off:Nat):Option D :=
 match G6 c t with
 | some true=>match eE c t with
  | none=>none
  | some n=>bif (Nat.beq off 0)&&Nat.beq n (qe d).length&&d.z7Q then some d
   else match J4 (qe d) off n with | some l=>some (.agg l) | none=>none
 | some false=>(qe d)[off]?
 | none=>none
def B4(t:Nat)(d:D)(off:Nat)(x:D):Option D :=
 match eE c t with
 | none=>none
 | some n=>bif Nat.blt 0 n&&Nat.beq n (qe x).length&&Nat.ble (off+n) (qe d).length then
   bif Nat.beq n (qe d).length then some x
   else some (.agg ((qe d).take off++qe x++(qe d).drop (off+n)))
  else none
def Wv(t:Nat)(a:Option D):gU:=match a with
 | some (.qN τ x)=>bif jK c t τ then val (.zD τ x)else bad
 | some (.ptr b off)=>.rd λst=>match st[b]? with
  | some (.var d)=>match Dg c t d off with | some r=>.ret (some r) | none=>.fail
  | _=>.fail
 | some (.vU b qw e idx off)=>.rd λst=>match st[b]? with
  | some (.arr jv e' xs)=>bif decide (e'=e)then
    .zA (qw=jv/\idx<xs.length) (match Dg c t (.zD e' (xs.getD idx (zj e'))) off with | some r=>.ret (some r) | none=>.fail)
   else .fail
  | _=>.fail
 | _=>bad
def Xe(t:Nat)(a:Option D)(v:Option D):gU:=match a,v with
 | some (.ptr b off),some x=>.wr λst=>match st[b]? with
  | some (.var d)=>match B4 c t d off x with | some r=>bif iu d r then .ret (none,st.set b (.var r))else .fail | none=>.fail
  | _=>.fail
 | some (.vU b qw e idx off),some x=>.wr λst=>match st[b]? with
  | some (.arr jv e' xs)=>bif decide (e'=e)then
    .zA (qw=jv/\idx<xs.length) (match B4 c t (.zD e' (xs.getD idx (zj e'))) off x with
     | some r=>match cN e' r with | some y=>.ret (none,st.set b (.arr jv e' (xs.set idx y))) | none=>.fail
     | none=>.fail)
   else .fail
  | _=>.fail
 | _,_=>bad
def nw:(τ:Ty)->den τ->Nat->Option (D×Nat×Nat)
 | .cons a _,x,0=>some (.qN a x.1,0,a.size)
 | .cons a b,x,n+1=>match nw b x.2 n with | some (d,o,s)=>some (d,a.size+o,s) | none=>none
 | .expr,x,0=>some (.qN i64 x.kind,0,1)
 | .expr,x,1=>some (.qN JF x.num,1,3)
 | .expr,x,2=>some (.qN .str x.name,4,1)
 | .expr,x,3=>some (.qN (.sl .expr) x.kids,5,1)
 | _,_,_=>none
def X8(s f:Nat):Option (Nat×Nat):=match c.P.underlying s with
 | some (.struct fs)=>match fs[f]? with
  | some fd=>match eE c fd.type with | some n=>bif Nat.beq n 0 then none else some (fd.offset,n) | none=>none
  | none=>none
 | _=>none
def nf(s f:Nat)(a:Option D):gU:=match X8 c s f with
 | none=>bad
 | some (o,n)=>match a with
  | some (.qN τ x)=>match nw τ x f with
   | some (d,o',n')=>bif Nat.beq o o'&&Nat.beq n n' then val d else bad
   | none=>bad
  | some (.ptr b off)=>val (.ptr b (off+o))
  | some (.vU b qw e idx off)=>val (.vU b qw e idx (off+o))
  | _=>bad
def KQ(s f:Nat)(a:Option D):gU:=match c.P.underlying s with
 | some (.struct fs)=>match fs[f]? with
  | some fd=>match a with
   | some d=>T1 (bif d.bI then Dg c fd.type d fd.offset else none)
   | none=>bad
  | none=>bad
 | _=>bad
def asInt:Option D->Option (IntKind×Int)
 | some (.zD (.int k) n)=>some (k,n)
 | _=>none
def Wp:Option D->Option zf
 | some (.zD .str s)=>some s
 | _=>none
def asBool:Option D->Option Bool
 | some (.zD .bool b)=>some b
 | _=>none
def ep(t:Nat):Option Nat:=match c.P.underlying t with | some (.slice e)=>some e | _=>none
def z4w(t:Nat):Option (Nat×Nat):=match c.P.underlying t with | some (.array n e)=>some (n,e) | _=>none
def VM(t:Nat)(x:Option D)(i:Int):gU:=match z4w c t,x with
 | some (n,et),some (.qN τ y)=>match Ga τ with
  | some (e,m)=>bif jK c et e&&Nat.beq n m then .val (.zA (0<=i/\i<(n:Int)) (.ret (some (.qN e (nJ e τ y i.toNat)))))else bad
  | none=>bad
 | _,_=>bad
def mA(t:Nat)(x i:Option D):gU:=match ep c t,asInt i with
 | none,some (_,i)=>VM c t x i
 | some et,some (_,i)=>match x with
  | some (.zD (.sl e) l)=>bif jK c et e then .val (.zA (0<=i/\i<(List.length l:Int)) (.ret (some (.qN e (List.getD l i.toNat (zj e))))))else bad
  | some (.tight e l _)=>bif jK c et e then .val (.zA (0<=i/\i<(List.length l:Int)) (.ret (some (.qN e (List.getD l i.toNat (zj e))))))else bad
  | some (.ms b qw e off len)=>bif jK c et e then .val (.zA (0<=i/\i<(len:Int)) (.ret (some (.vU b qw e (off+i.toNat) 0))))else bad
  | _=>bad
 | _,_=>bad
def Ko(t:Nat)(x i:Option D):gU:=match asInt i,Wp x,c.P.underlying t with
 | some (_,i),some s,some .string=>.val (.zA (0<=i/\i<(List.length s:Int)) (.ret (some (.zD (.int .u8) ((List.getD s i.toNat 0).toNat:Int)))))
 | _,_,_=>bad
def IS(d:Int):Option (Option D)->Option Int
 | none=>some d
 | some x=>match asInt x with | some (_,i)=>some i | none=>none
def wX(l h:Int)(s:zf):zf:=(s.take h.toNat).drop l.toNat
def wY{e:Ty}(l h:Int)(s:List (den e)):List (den e):=(s.take h.toNat).drop l.toNat
def KZ(t:Nat)(x:Option D)(lo hi mx:Option (Option D)):gU:=match x with
 | some (.zD .str s)=>match c.P.underlying t,mx,IS 0 lo,IS (List.length s) hi with
  | some .string,none,some l,some h=>.val (.zA (0<=l/\l<=h/\h<=(List.length s:Int)) (.ret (some (.zD .str (wX l h s)))))
  | _,_,_,_=>bad
 | some (.zD (.sl e) s)=>match ep c t,IS 0 lo,IS (List.length s) hi with
  | some et,some l,some h=>bif jK c et e then match mx with
    | none=>.val (.zA (0<=l/\l<=h/\h<=(List.length s:Int)) (.ret (some (.zD (.sl e) (wY l h s)))))
    | some m=>match asInt m with
     | some (_,m)=>bif hi.isSome then .val (.zA (0<=l/\l<=h/\h=m/\h<=(List.length s:Int)) (.ret (some (.tight e (wY l h s) false))))else bad
     | none=>bad
   else bad
  | _,_,_=>bad
 | some (.tight e s _)=>match ep c t,mx,IS 0 lo,IS (List.length s) hi with
  | some et,none,some l,some h=>bif jK c et e then .val (.zA (0<=l/\l<=h/\h<=(List.length s:Int)) (.ret (some (.zD (.sl e) (wY l h s)))))else bad
  | _,_,_,_=>bad
 | some (.ms b qw e off len)=>match ep c t,mx,IS 0 lo,IS len hi with
  | some et,none,some l,some h=>bif jK c et e then .val (.zA (0<=l/\l<=h/\h<=(len:Int)) (.ret (some (.ms b qw e (off+l.toNat) (h.toNat-l.toNat)))))else bad
  | _,_,_,_=>bad
 | _=>bad
def ib(k:IntKind)(n:Int):gU:=val (.zD (.int k) n)
def bb(b:Bool):gU:=val (.zD .bool b)
def nM(k:IntKind)(f:BitVec k.bits->BitVec k.bits->BitVec k.bits)(x y:Int):Int:=k.wrap (f (BitVec.ofInt k.bits x) (BitVec.ofInt k.bits y)).toNat
def y6(k:IntKind)(a b:Int):Int:=k.wrap (a*2 ^ (min b.toNat k.bits))
def wg(k:IntKind)(a b:Int):Int:=Int.fdiv a (2 ^ (min b.toNat k.bits))
def CA(op:BinOp)(k:IntKind)(a b:Int):gU:=match op with
 | .add=>ib k (k.wrap (a+b))
 | .sub=>ib k (k.wrap (a-b))
 | .mul=>ib k (k.wrap (a*b))
 | .quo=>.val (.zA (b≠0) (.ret (some (.zD (.int k) (k.wrap (a.tdiv b))))))
 | .rem=>.val (.zA (b≠0) (.ret (some (.zD (.int k) (a.tmod b)))))
 | .and=>ib k (nM k (· &&& ·) a b)
 | .or=>ib k (nM k (· ||| ·) a b)
 | .xor=>ib k (nM k (· ^^^ ·) a b)
 | .eql=>bb (a==b)
 | .neq=>bb (a != b)
 | .lss=>bb (decide (a<b))
 | .leq=>bb (decide (a<=b))
 | .gtr=>bb (decide (b<a))
 | .geq=>bb (decide (b<=a))
 | _=>bad
def zr(a b:zf):Bool:=a==b
def strLt(a b:zf):Bool:=Op.bytesLess a b
def cat(a b:zf):zf:=a++b
def Cf(op:BinOp)(a b:zf):gU:=match op with
 | .add=>.val (.zA (a.length+b.length<=4611686018427387904) (.ret (some (.zD .str (cat a b)))))
 | .eql=>bb (zr a b)
 | .neq=>bb (!zr a b)
 | .lss=>bb (strLt a b)
 | .leq=>bb (strLt a b||zr a b)
 | .gtr=>bb (!(strLt a b||zr a b))
 | .geq=>bb (!strLt a b)
 | _=>bad
def OQ(op:BinOp)(a b:Bool):gU:=match op with
 | .eql=>bb (a==b)
 | .neq=>bb (!(a==b))
 | _=>bad
def Xa:BinOp->Bool
 | .shl | .shr=>true
 | _=>false
def TP(a:Ty)(t:Nat):Bool:=match a,c.P.underlying t with
 | .int k,some (.int k')=>decide (k=k')
 | .bool,some .bool=>true
 | .str,some .string=>true
 | _,_=>false
def sC:Ty->Nat->List Field->Bool
 | .nil,_,[]=>true
 | .cons a r,off,f::fs=>decide (f.name ≠ "_")&&(Nat.beq f.offset off&&(TP c a f.type&&sC r (off+1) fs))
 | _,_,_=>false
def S3:(τ:Ty)->den τ->den τ->Bool
 | .int _,(a:Int),(b:Int)=>a==b
 | .bool,(a:Bool),(b:Bool)=>a==b
 | .str,(a:zf),(b:zf)=>zr a b
 | .cons a r,(x:den a×den r),(y:den a×den r)=>S3 a x.1 y.1&&S3 r x.2 y.2
 | _,_,_=>true
def Vc(τ:Ty)(t:Nat):Bool:=match c.P.underlying t with
 | some (.struct fs)=>sC c τ 0 fs.toList&&(!(c.P.stoodInHeld t) && !(c.P.eqGuardType c.P.depth t))
 | _=>false
def Ow(op:BinOp)(t:Nat)(x y:Option D):gU:=match x,y with
 | some (.zD τ a),some (.zD σ b)=>match(wv b:Option (den τ))with
  | some b=>bif τ.isAgg&&Vc c τ t then(match op with
   | .eql=>bb (S3 τ a b)
   | .neq=>bb (!S3 τ a b)
   | _=>bad)else bad
  | none=>bad
 | _,_=>bad
def BE(op:BinOp)(t:Nat)(x y:Option D):gU:=match asInt x,asInt y with
 | some (k,a),some (k',b)=>match op with
  | .shl=>.val (.zA (0<=b) (.ret (some (.zD (.int k) (y6 k a b)))))
  | .shr=>.val (.zA (0<=b) (.ret (some (.zD (.int k) (wg k a b)))))
  | op=>bif decide (k=k')then CA op k a b else bad
 | _,_=>match Wp x,Wp y with
  | some a,some b=>bif Xa op then bad else Cf op a b
  | _,_=>match c.P.underlying t,asBool x,asBool y with
   | some .bool,some a,some b=>OQ op a b
   | _,_,_=>Ow c op t x y
def KH(op:BinOp)(t:Nat)(x:Option D):gU:=match c.P.underlying t with
 | some (.interface _)=>match op,x with
  | .eql,some .qP=>bb true
  | .eql,some (.iface _ _)=>bb false
  | .neq,some .qP=>bb false
  | .neq,some (.iface _ _)=>bb true
  | _,_=>bad
 | _=>bad
def lq(x:Option D)(at':Nat)(ok:Bool):gU:=match c.P.underlying at' with
 | some (.interface _)=>bad
 | none=>bad
 | some _=>match x with
  | some (.iface t d)=>bif Nat.beq t at'&&ok then val (.kY [d,.zD .bool true])else bad
  | _=>bad
def Dh(op:BinOp)(t:Nat)(p:Operand)(x y:Option D):gU:=match p with
 | .const .nilIface=>KH c op t x
 | _=>BE c op t x y
def PG(op:UnOp)(x:Option D):gU:=match op with
 | .neg=>match asInt x with | some (k,n)=>ib k (k.wrap (0-n)) | none=>bad
 | .not=>match asBool x with | some b=>bb (!b) | none=>bad
 | .xor=>match asInt x with | some (k,n)=>ib k (nM k (· ^^^ ·) (if k.signed then -1 else k.max) n) | none=>bad
 | _=>bad
def byteOf(n:Int):UInt8:=UInt8.ofNat n.toNat
def YT(e:Ty):D->Option (List (den e))
 | .zD σ y=>wv (a:=σ) (b:=.sl e) y
 | .tight e' y _=>wv (a:=.sl e') (b:=.sl e) y
 | .xo=>some []
 | _=>none
def qD(l:List Int):zf:=l.map byteOf
def Zg(e:Nat)(x:Option D):gU:=match c.P.underlying e,x with
 | some (.int .u8),some d=>.rd λst=>(mb st d).bind λy=>match YT (.int .u8) y with
  | some l=>.ret (some (.zD .str (qD l)))
  | none=>.fail
 | _,_=>bad
def convertOp(s t:Nat)(x:Option D):gU:=match c.P.underlying s,c.P.underlying t with
 | some (.slice e),some .string=>Zg c e x
 | some (.int _),some (.int k)=>match asInt x with | some (_,n)=>ib k (k.wrap n) | none=>bad
 | some .string,some .string=>match Wp x with | some s=>val (.zD .str s) | none=>bad
 | _,_=>bad
def Rw(t:Nat)(x:Option D):gU:=match c.P.underlying t with
 | some (.slice _)=>match x with
  | some (.zD (.sl _) l)=>ib .i64 (List.length l)
  | some (.tight _ l _)=>ib .i64 (List.length l)
  | some .xo=>ib .i64 0
  | some (.ms _ _ _ _ len)=>ib .i64 (len:Nat)
  | _=>bad
 | some .string=>match Wp x with
  | some s=>ib .i64 (List.length s)
  | none=>bad
 | _=>bad
def ex(e:Ty){e':Ty}(xs:List (den e')):Option (List (den e)):=wv (a:=.sl e') (b:=.sl e) xs
def fB(e:Ty)(l ys:List (den e))(bytes:Nat)(st:St):T (Option D×St) :=
 .zA ((l.length+ys.length)*bytes<=140737488355328) (.ret (some (.ms st.length (l.length+ys.length) e 0 (l.length+ys.length)),st++[.arr (l.length+ys.length) e (l++ys)]))
def jl(e:Ty)(s:D)(ys:List (den e))(ne:Bool)(bytes:Nat)(st:St):T (Option D×St):=match s with
 | .xo=>bif ne then fB e [] ys bytes st else .ite ys.isEmpty (.ret (some s,st)) (fB e [] ys bytes st)
 | .tight e' l _=>match ex e l with
  | some l=>bif ne then fB e l ys bytes st else .ite ys.isEmpty (.ret (some s,st)) (fB e l ys bytes st)
  | none=>.fail
 | .ms b qw e' off len=>match st[b]? with
  | some (.arr jv e'' xs)=>match ex e xs with
   | some xs=>bif decide (e'=e)then .zA (qw=jv/\off=0/\len=xs.length/\(xs.length+ys.length)*bytes<=140737488355328)
     (.ret (some (.ms b (qw+ys.length) e 0 (len+ys.length)),st.set b (.arr (qw+ys.length) e (xs++ys))))else .fail
   | none=>.fail
  | _=>.fail
 | _=>.fail
def zeroOf(et:Nat)(e:Ty):Option (den e):=match Qj c et with | some z=>cN e z | none=>none
def sB(t:Nat)(s x:Option D):gU:=match ep c t with
 | none=>bad
 | some et=>match Yb c 20 et,iv c et with
  | some e,some bytes=>bif jK c et e&&Nat.blt 0 e.size&&Nat.blt 0 bytes&&(zeroOf c et e).isSome then match s,x with
    | some s,some x=>.wr λst=>(mb st x).bind λx=>match x with
     | .zD _ y=>match(wv y:Option (den (.sl e)))with
      | some ys=>jl e s ys false bytes st
      | none=>.fail
     | .tight _ y ne=>match ex e y with
      | some ys=>jl e s ys ne bytes st
      | none=>.fail
     | .xo=>jl e s [] false bytes st
     | _=>.fail
    | _,_=>bad
   else bad
  | _,_=>bad
def bytesOf(s:zf):List Int:=s.map λb=>((b.toNat:Nat):Int)
def oG(t t':Nat)(s x:Option D):gU:=match ep c t with
 | none=>bad
 | some et=>match Yb c 20 et,iv c et,c.P.underlying t' with
  | some (.int .u8),some bytes,some .string=>bif jK c et (.int .u8)&&Nat.blt 0 bytes&&(zeroOf c et (.int .u8)).isSome then match s,x with
    | some s,some (.zD .str l)=>.wr λst=>jl (.int .u8) s (bytesOf l) false bytes st
    | _,_=>bad
   else bad
  | _,_,_=>bad
def CX(t:Nat)(n m:Option D):gU:=match ep c t,asInt n,asInt m with
 | some et,some (_,n),some (_,m)=>match Yb c 20 et,iv c et with
  | some e,some bytes=>match zeroOf c et e with
   | some z=>bif jK c et e&&Nat.blt 0 e.size then
     .wr λst=>.zA (0<=n/\n<=m/\m*bytes<=140737488355328/\m<=140737488355328) (.ret (some (.ms st.length n.toNat e 0 n.toNat),st++[.arr n.toNat e (List.replicate n.toNat z)]))
    else bad
   | none=>bad
  | _,_=>bad
 | _,_,_=>bad
def UC(e:Ty):Nat->List (Nat×Option D)->Option (List (den e))
 | _,[]=>some []
 | i,(j,some d)::r=>bif Nat.beq i j then match cN e d,UC e (i+1) r with
   | some x,some l=>some (x::l)
   | _,_=>none
  else none
 | _,_=>none
def iI(t n:Nat)(ps:List (Nat×Option D)):gU:=match ep c t with
 | none=>bad
 | some et=>match Yb c 20 et with
  | some e=>bif jK c et e&&Nat.beq n ps.length&&Nat.ble n 1000&&Nat.ble e.size 100&&(zeroOf c et e).isSome then match UC e 0 ps with
    | some l=>bif Nat.beq n 0&&Nat.blt 0 e.size then .wr λst=>.ret (some (.ms st.length 0 e 0 0),st++[.arr 0 e []])else val (.tight e l (!Nat.beq n 0))
    | none=>bad
   else bad
  | none=>bad
def dA(places:List (Nat×Nat)):List (Nat×Option D)->List D->Option (List D)
 | [],cells=>some cells
 | (i,some d)::r,cells=>match places[i]? with
  | some (off,n)=>bif !d.uj&&Nat.beq n (qe d).length&&Nat.ble (off+n) cells.length then
     dA places r (cells.take off++qe d++cells.drop (off+n))else none
  | none=>none
 | _,_=>none
def KJ(t:Nat)(ps:List (Nat×Option D)):gU:=match c.P.underlying t with
 | some (.struct fs)=>match Qj c t,fs.toList.mapM (λf=>(c.P.info? f.type).map λi=>(f.offset,i.size))with
  | some (.agg z),some places=>match dA places ps z with
   | some l=>val (.agg l)
   | none=>bad
  | _,_=>bad
 | some (.array k e)=>match Qj c t,c.P.info? e with
  | some (.agg z),some ie=>match dA ((List.range k).map λi=>(i*ie.size,ie.size)) ps z with
   | some l=>val (.agg l)
   | none=>bad
  | _,_=>bad
 | _=>bad
def ZR(x:Option D)(i:Nat):gU:=match x with
 | some (.kY vs)=>T1 vs[i]?
 | _=>bad
def kO:List D->D
 | [d]=>d
 | ds=>.kY ds
def Ty.scalar:Ty->Bool
 | .int _ | .bool | .str=>true
 | .cons a b=>a.scalar&&b.scalar
 | .nil=>true
 | _=>false
def oz:D->Bool
 | .zD τ _=>τ.scalar
 | _=>false
def lP(st:St)(τ:Ty):D->T D
 | .qN _ x=>match(wv x:Option (den τ))with | some y=>.ret (.qN τ y) | none=>.fail
 | .ptr b off=>match st[b]? with
  | some (.var d)=>match bif Nat.beq off 0 then cN τ d else none with | some y=>.ret (.qN τ y) | none=>.fail
  | _=>.fail
 | _=>.fail
def mL(st:St):Zm->D->T D
 | .im τ,d=>(Z7 st τ d).bind λx=>.ret (.zD τ x)
 | .rp τ,d=>lP st τ d
def hH(st:St):List Zm->List D->T (List D)
 | [],[]=>.ret []
 | p::r,d::ds=>(mL st p d).bind λx=>(hH st r ds).bind λl=>.ret (x::l)
 | _,_=>.fail
def YO(st:St):sn->D->T D
 | .ty τ,d=>(Z7 st τ d).bind λx=>.ret (.zD τ x)
 | .rp τ,d=>lP st τ d
 | .qS f caps,.qS f' l=>bif Nat.beq f f' then(hH st caps l).bind λl=>.ret (.qS f l)else .fail
 | _,_=>.fail
def lW(st:St):List sn->List D->T (List D)
 | [],[]=>.ret []
 | p::r,d::ds=>(YO st p d).bind λx=>(lW st r ds).bind λl=>.ret (x::l)
 | _,_=>.fail
def z3z:D->Bool | .ptr .. => true | _=>false
def Wy:D->Bool
 | .agg cs=>cs.any JP
 | .qS _ l=>l.any λd=>JP d||z3z d
 | .ptr .. => true
 | d=>JP d
def N1(r:Ku×St):T (Option D):=match r with
 | (.ret ds,[])=>.ret (some (kO ds))
 | _=>.fail
def oB(r:Ku×St):T (Option D):=match r with
 | (.ret ds,[])=>bif ds.all oz then .ret (some (kO ds))else .fail
 | _=>.fail
def gv(g:Nat)(s:Sig)(args:List D):gU :=
 bif !(args.any Wy)then .val ((lW [] s.params args).bind λl=>(c.fn g l []).bind N1)
 else .rd λst=>(lW st s.params args).bind λl=>(c.fn g l []).bind oB
def oN(g:Nat)(args:List D):gU:=.wr λst=>(c.fn g args st).bind λr=>match r.1 with
 | .ret ds=>.ret (some (kO ds),r.2)
 | .kb _=>.fail
def y8(g:Nat):Nat:=bif Nat.ble 1000000 g then g % 1000000 else g
def uT{α:Type}(g:Nat)(l caps:List α):List α:=bif Nat.ble 1000000 g then caps++l else l++caps
def bO(f:Option D)(args:List (Option D)):gU:=match f,u6 args with
 | some (.qS g caps),some l=>match c.sig (y8 g) (uT g l caps)with
  | some s=>gv c (y8 g) s (uT g l caps)
  | none=>oN c (y8 g) (uT g l caps)
 | _,_=>bad
def Ki(a b:Int):Int:=if b<a then b else a
def lJ(a b:Int):Int:=if a<b then b else a
def Vz(f:Int->Int->Int)(args:List (Option D)):gU:=match args with
 | [x,y]=>match asInt x,asInt y with
  | some (k,a),some (k',b)=>bif decide (k=k')then ib k (f a b)else bad
  | _,_=>bad
 | _=>bad
def jU{α:Type}(off len:Nat)(xs l:List α):List α:=xs.take off++l.take len++xs.drop (off+min len l.length)
def PU(k:IntKind)(b qw off len:Nat)(l:List Int)(st:St):T (Option D×St):=match st[b]? with
 | some (.arr jv e' xs)=>match ex (.int k) xs with
  | some xs=>.zA (qw=jv/\off+len<=List.length xs) (.ret (some (.zD i64 ((min len l.length:Nat):Int)),st.set b (.arr jv (.int k) (jU off len xs l))))
  | none=>.fail
 | _=>.fail
def Cc(t:Nat)(s x:Option D):gU:=match ep c t with
 | some et=>match c.P.underlying et,eE c et,s,x with
  | some (.int k),some 1,some (.ms b qw (.int k') off len),some d=>bif decide (k'=k)then .wr λst=>(mb st d).bind λy=>match YT (.int k) y with
    | some l=>PU k b qw off len l st
    | none=>.fail
   else bad
  | _,_,_,_=>bad
 | none=>bad
def fy(b:Builtin)(ts:List Nat)(args:List (Option D)):gU:=match b,ts,args with
 | .len,t::_,x::_=>Rw c t x
 | .append,[t,t'],[s,x]=>bif Nat.beq t t' then sB c t s x else oG c t t' s x
 | .copy,[t,_],[s,x]=>Cc c t s x
 | .min,_,args=>Vz Ki args
 | .max,_,args=>Vz lJ args
 | _,_,_=>bad
def uf(fr:Fr):Operand->Option D
 | .tmp t=>fr.get t
 | .const v=>Qf v
 | .global _=>none
 | .func f=>bif Nat.blt f 1000000 then some (.qS f [])else none
def rX(x:Option D):gU:=match x with
 | some (.ptr b o)=>val (.ptr b o)
 | some (.qN τ x)=>val (.qN τ x)
 | some (.vU b v e i o)=>val (.vU b v e i o)
 | some (.qS f l)=>val (.qS f l)
 | _=>bad
def By(x a b:Option D):gU:=match asBool x with
 | some x=>.val (.ite x (.ret a) (.ret b))
 | none=>bad
def nO(t:Nat)(x:Option D):gU:=match c.P.underlying t with
 | some (.interface _) | none=>bad
 | some _=>match x with | some d=>val (.iface t d) | none=>bad
def PZ(x:Option D):gU:=match x with
 | some d=>bif d.uj||d.typed.isSome then bad else .wr λst=>.ret (some (.ptr st.length 0),st++[.var d])
 | none=>bad
def Re(t:Nat)(x:Option D):gU:=match x with
 | some (.zD τ x)=>val (.qN τ x)
 | some d=>match Yb c 20 t with
  | some τ=>match cN τ d with | some x=>val (.qN τ x) | none=>bad
  | none=>bad
 | none=>bad
def z5J:Option Nat->Bool
 | some s=>c.ro s
 | none=>false
def MW(t:Nat)(dst:Option Nat)(x:Option D):gU:=bif z5J c dst then Re c t x else PZ x
def iP(t:Nat):gU:=match Qj c t with
 | some d=>.wr λst=>.ret (some (.ptr st.length 0),st++[.var d])
 | none=>bad
def qC(ρ:Operand->Option D)(o:Oper):gU:=match o.op with
 | .move x | .assign x=>.val (.ret (ρ x))
 | .pick x a b=>By (ρ x) (ρ a) (ρ b)
 | .alloc t=>iP c t
 | .box t x=>MW c t o.dst (ρ x)
 | .load t a=>Wv c t (ρ a)
 | .store t a v=>Xe c t (ρ a) (ρ v)
 | .nilCheck x=>rX (ρ x)
 | .binOp op t x y _=>Dh c op t y (ρ x) (ρ y)
 | .typeAssert x _ t ok=>lq c (ρ x) t ok
 | .unOp op _ x=>PG op (ρ x)
 | .convert s t x=>convertOp c s t (ρ x)
 | .makeInterface t x=>nO c t (ρ x)
 | .makeFunc (.func f) first cap=>bif Nat.beq first.size 0&&Nat.blt f 1000000 then match u6 (cap.toList.map ρ)with | some l=>val (.qS f l) | none=>bad
   else bif Nat.beq cap.size 0&&Nat.blt f 1000000 then match u6 (first.toList.map ρ)with | some l=>val (.qS (f+1000000) l) | none=>bad else bad
 | .makeSlice t l m=>CX c t (ρ l) (ρ m)
 | .slice t x lo hi mx=>KZ c t (ρ x) (lo.map ρ) (hi.map ρ) (mx.map ρ)
 | .fieldAddr s x f=>nf c s f (ρ x)
 | .field s x f=>KQ c s f (ρ x)
 | .indexAddr t x i=>mA c t (ρ x) (ρ i)
 | .index t x i=>Ko c t (ρ x) (ρ i)
 | .extract x i=>ZR (ρ x) i
 | .build t ps=>KJ c t (ps.toList.map λp=>(p.1,ρ p.2))
 | .buildSlice t n ps=>iI c t n (ps.toList.map λp=>(p.1,ρ p.2))
 | .call cl=>match cl.callee with
  | .builtin b=>fy c b cl.argTypes.toList (cl.args.toList.map ρ)
  | .value f=>bO c (ρ f) (cl.args.toList.map ρ)
  | .invoke _ _=>bad
 | _=>bad
def zB:gU->St->T (Option D×St)
 | .val t,st=>t.bind λd=>.ret (d,st)
 | .rd k,st=>(k st).bind λd=>.ret (d,st)
 | .wr k,st=>k st
end ops
end Go.AM
namespace Go.AM
def gU.kind:gU->Nat
 | .val _=>0
 | .rd _=>1
 | .wr _=>2
def ub(ops:Array Oper)(j:Nat):Option Nat:=match ops[j]? with | some o=>o.dst | none=>none
def IC:D:=.kY []
def vw(n:Nat):Option Nat->Bool
 | some t=>Nat.blt t n
 | none=>true
section
variable (c:Ctx)
variable [pe]
def bL(kn:Kn):Operand->Option Bool
 | .tmp t=>kn.get t
 | .const (.bool b)=>some b
 | _=>none
def Uf(kn:Kn):Op->Option Bool
 | .move x | .assign x=>bL kn x
 | .pick x a b=>match bL kn x with
  | some true=>bL kn a
  | some false=>bL kn b
  | none=>none
 | _=>none
def lN(kn:Kn)(fr:Fr)(o:Oper):gU:=match o.op with
 | .pick x a b=>match bL kn x with
  | some true=>.val (.ret (uf fr a))
  | some false=>.val (.ret (uf fr b))
  | none=>qC c (uf fr) o
 | _=>qC c (uf fr) o
def Uv(kn:Kn)(dst:Option Nat)(b:Option Bool):Kn:=match dst with | some t=>(t,b)::kn | none=>kn
inductive RK where
 | z (k:Nat) | rd (b:Nat) | wr (free:List Nat) | up (b:Nat)
def RK.base:RK->Nat
 | .z k=>k
 | .rd _=>1
 | .wr _=>2
 | .up _=>2
def others(n:Nat)(l:List Nat):List Nat:=(List.range n).filter λb => !(l.any (Nat.beq b))
def z3U(d:Option D):Option Nat:=match d with
 | some d=>match d with
  | .ptr b _=>some b
  | .vU b _ _ _ _=>some b
  | _=>none
 | none=>none
def Fw(bi:Builtin)(l:List (Option D)):RK:=match bi with
 | .append=>match l with | [some (.ms b _ _ _ _),some x]=>bif JP x then .z 2 else .up b | _=>.z 2
 | _=>.z 2
def xR(ρ:Operand->Option D)(st:St)(o:Oper):RK:=match(qC c ρ o).kind with
 | 1=>match o.op with
  | .load _ a=>match z3U (ρ a)with | some b=>.rd b | none=>.z 1
  | _=>.z 1
 | 2=>match o.op with
  | .alloc _=>.wr (others st.length [])
  | .store _ a _=>match z3U (ρ a)with | some b=>.up b | none=>.z 2
  | .call cl=>match cl.callee with
   | .value f=>match ρ f,u6 (cl.args.toList.map ρ)with | some (.qS g caps),some l=>.wr (c.free (y8 g) (uT g l caps) st) | _,_=>.z 2
   | .builtin bi=>Fw bi (cl.args.toList.map ρ)
   | _=>.z 2
  | _=>.z 2
 | k=>.z k
structure cg where
 fr:Fr
 kn:Kn
 st:St
 ks:List Nat      -- kinds of what has run,the last first
 bk:List RK
def yQ(n:Nat)(o:Oper)(s:cg):T cg :=
 bif vw n o.dst then
  let cl:=lN c s.kn s.fr o
  (zB cl s.st).bind λr=>.ret ⟨s.fr.put o.dst r.1,Uv s.kn o.dst (Uf s.kn o.op),r.2,cl.kind::s.ks,xR c (uf s.fr) s.st o::s.bk⟩
 else .fail
def uV(o:Oper)(s:cg):cg:=⟨s.fr.put o.dst (some IC),Uv s.kn o.dst none,s.st,0::s.ks,.z 0::s.bk⟩
def cg.gB(s:cg)(t:Nat)(b:Bool):cg:={ s with kn:=(t,some b)::s.kn }
def stepG(n:Nat)(ops:Array Oper)(o:Oper)(s:cg):T cg:=match o.guard with
 | none=>yQ c n o s
 | some (j,want)=>match ub ops j with
  | none=>.fail
  | some t=>match s.kn.get t with
   | some b=>bif b==want then yQ c n o s else bif vw n o.dst then .ret (uV o s)else .fail
   | none=>match s.fr.get t with
    | some (.zD .bool x)=>bif vw n o.dst then
      .ite x (bif want then yQ c n o (s.gB t true)else .ret (uV o (s.gB t true)))
          (bif want then .ret (uV o (s.gB t false))else yQ c n o (s.gB t false))
     else .fail
    | some (.kY [])=>bif vw n o.dst then .ret (uV o s)else .fail
    | _=>.fail
def eX(n:Nat)(ops:Array Oper):List Oper->cg->T cg
 | [],s=>.ret s
 | o::l,s=>(stepG c n ops o s).bind λs'=>eX n ops l s'
def tmpsOf(ops:Array Oper)(o:Oper):List Nat :=
 (match o.dst with | some d=>[d] | none=>[]) ++
 (match o.guard with | some (j,_)=>(match ub ops j with | some s=>[s] | none=>[]) | none=>[]) ++
 o.op.operands.toList.filterMap λ| .tmp t=>some t | _=>none
def xc(l:List Oper):List Nat->List Nat
 | acc=>match l with
  | []=>acc
  | o::r=>xc r (acc++[o.after.toList.foldl (λs e=>bif Region.binds .any e then s ||| 2 ^ e.on ||| acc.getD e.on 0 else s) 0])
def ordered(bs:List Nat)(i j:Nat):Bool:=Nat.testBit (bs.getD j 0) i
def vW(k l:Nat):Bool:=(Nat.beq k 2 && !Nat.beq l 0)||(Nat.beq l 2 && !Nat.beq k 0)
def D2{K:Type}(cl:K->K->Bool)(bs:List Nat)(xs:List (Nat×Option Nat×List Nat×K))(j:Nat)(dj:Option Nat)(tj:List Nat)(kj:K):Bool :=
 xs.all λx=>ordered bs x.1 j||(!(match x.2.1 with | some d=>tj.contains d | none=>false) && !(match dj with | some d=>x.2.2.1.contains d | none=>false) && !cl x.2.2.2 kj)
def lh{K:Type}(cl:K->K->Bool)(ops:Array Oper)(bs:List Nat):List Oper->List K->Nat->List (Nat×Option Nat×List Nat×K)->Bool
 | [],_,_,_=>true
 | o::l,k::ks,j,xs=>let tj:=tmpsOf ops o; D2 cl bs xs j o.dst tj k&&lh cl ops bs l ks (j+1) ((j,o.dst,tj,k)::xs)
 | _,_,_,_=>false
def yM:List Oper->Nat->Bool
 | [],_=>true
 | o::l,j=>o.after.toList.all (λe => !Region.binds .any e||Nat.blt e.on j)&&yM l (j+1)
def EC(ops:Array Oper)(ks:List Nat):Bool :=
 let l:=ops.toList
 yM l 0&&lh vW ops (xc l []) l ks 0 []
def QP(o:Oper):Bool:=(match o.op with | .alloc _=>true | _=>false)&&o.guard.isNone&&o.dst.isSome
def Wf:List Oper->List Nat->List Nat
 | o::l,k::ks=>(bif QP o then 3 else k)::Wf l ks
 | _,_=>[]
def ng(k l:Nat):Bool:=bif Nat.beq k 3&&Nat.beq l 3 then false else vW (bif Nat.beq k 3 then 2 else k) (bif Nat.beq l 3 then 2 else l)
def V7:List Oper->Nat->List Nat
 | [],_=>[]
 | o::l,i=>bif QP o then i::V7 l (i+1)else V7 l (i+1)
def GJ(bs al:List Nat)(n:Nat):Bool:=(List.range n).all λj => !(al.any λp=>ordered bs p j)||al.all λp=>ordered bs p j
def EH(ops:Array Oper)(ks:List Nat):Bool :=
 let l:=ops.toList
 yM l 0&&(ks.all λk=>Nat.ble k 2)&&lh ng ops (xc l []) l (Wf l ks) 0 []&&GJ (xc l []) (V7 l 0) l.length
def vT:RK->RK->Bool
 | .rd b,.wr A => !(A.any (Nat.beq b))
 | .wr A,.rd b => !(A.any (Nat.beq b))
 | .rd b,.up a=>Nat.beq a b
 | .up a,.rd b=>Nat.beq a b
 | .up a,.up b=>Nat.beq a b
 | x,y=>vW x.base y.base
def FU(ops:Array Oper)(ks:List RK):Bool :=
 let l:=ops.toList
 yM l 0&&lh vT ops (xc l []) l ks 0 []
def rS(ops:Array Oper)(ks:List Nat)(bk:List RK):Bool:=EC ops ks||EH ops ks||FU ops bk
def gV(n:Nat)(ops:Array Oper)(draw:Bool)(fr:Fr)(kn:Kn)(st:St):T cg :=
 (eX c n ops ops.toList ⟨fr,kn,st,[],[]⟩).bind λs=>bif !draw||rS ops s.ks.reverse s.bk.reverse then .ret s else .fail
structure zcd where
 ex:Ex
 fr:Fr
 kn:Kn
 st:St
structure zbh where
 ex:Ex
 out:List (Nat×D)
 st:St
abbrev z7Y:=Nat->Fr->St->T zbh
def z4g(l:List (Nat×D)):Fr:=l.map λp=>(p.1,some p.2)
def ev(n:Nat)(L:z7Y):Code->Fr->Kn->St->T zcd
 | .skip,fr,kn,st=>.ret ⟨.normal,fr,kn,st⟩
 | .region _ ops draw,fr,kn,st=>(gV c n ops draw fr kn st).bind λs=>.ret ⟨.normal,s.fr,s.kn,s.st⟩
 | .seq a b,fr,kn,st=>(ev n L a fr kn st).bind λr=>match r.ex with
  | .normal=>ev n L b r.fr r.kn r.st
  | _=>.ret r
 | .cond x a b,fr,kn,st=>match bL kn x with
  | some true=>ev n L a fr kn st
  | some false=>ev n L b fr kn st
  | none=>match x with
   | .tmp t=>match fr.get t with
    | some (.zD .bool v)=>.ite v (ev n L a fr ((t,some true)::kn) st) (ev n L b fr ((t,some false)::kn) st)
    | _=>.fail
   | _=>.fail
 | .block id (.loop _),fr,_,st=>(L id fr st).bind λr=>match r.ex with
   | .exit id'=>bif Nat.beq id' id then .ret ⟨.normal,z4g r.out,[],r.st⟩else .ret ⟨.exit id',z4g r.out,[],r.st⟩
   | .normal=>.fail
   | x=>.ret ⟨x,z4g r.out,[],r.st⟩
 | .block id a,fr,kn,st=>(ev n L a fr kn st).bind λr=>match r.ex with
  | .exit id'=>bif Nat.beq id' id then .ret { r with ex:=.normal } else .ret r
  | _=>.ret r
 | .exit id,fr,kn,st=>.ret ⟨.exit id,fr,kn,st⟩
 | .ret,fr,kn,st=>.ret ⟨.ret,fr,kn,st⟩
 | _,_,_,_=>.fail
def w6:List D->Nat->Fr
 | [],_=>[]
 | d::r,i=>(i,some d)::w6 r (i+1)
def gC(fr:Fr)(st:St):List ResultVar->T (List D)
 | []=>.ret []
 | .tmp t::r=>match fr.get t with
  | some d=>(gC fr st r).bind λl=>.ret (d::l)
  | none=>.fail
 | .cell a t::r=>match fr.get a with
  | some (.ptr b off)=>match st[b]? with
   | some (.var d)=>match Dg c t d off with
    | some x=>(gC fr st r).bind λl=>.ret (x::l)
    | none=>.fail
   | _=>.fail
  | _=>.fail
def vu(n:Nat):D->Bool
 | .ptr b _=>Nat.blt b n
 | .kf b _=>Nat.blt b n
 | .vU b .. => Nat.blt b n
 | .ms b .. => Nat.blt b n
 | .qS .. | .agg _ | .kY _ | .iface .. => false
 | _=>true
def yW(n:Nat):D->Bool
 | .qS _ l=>l.all (vu n)
 | .agg l=>l.all (vu n)
 | .iface _ d=>vu n d
 | d=>vu n d
def Kz(n:Nat):jW->Bool
 | .var d=>yW n d
 | _=>true
end
end Go.AM
namespace Go.AM
open Go.RowKit
inductive Rc(w:World)(ok:Nat->Prop):(τ:Ty)->den τ->List Value->Prop
 | int (k:IntKind) (n:Int):Rc w ok (.int k) n [.int k n]
 | bool (b:Bool):Rc w ok .bool b [.bool b]
 | str (s:zf):Rc w ok .str s [.string ⟨s.toArray⟩]
 | eK (e:Ty) (a:Option Addr):Rc w ok (.sl e) ([]:List (den e)) [.slice a 0 0]
 | sl (e:Ty) (l:List (den e)) (blk off cap:Nat) (f:Nat->List Value) (w7:ok blk) (wM:l.length<=cap)
   (h:∀ i (hi:i<l.length),Rc w ok e l[i] (f i))
   (hc:∀ i,i<l.length->∀ j v,(f i)[j]? = some v->w.cell? ⟨blk,off+i*e.size+j,none⟩=some v) :
   Rc w ok (.sl e) l [.slice (some ⟨blk,off,none⟩) l.length cap]
 | nil:Rc w ok .nil () []
 | cons (a b:Ty) (x:den a) (y:den b) (c1 c2:List Value) (h1:Rc w ok a x c1) (h2:Rc w ok b y c2):Rc w ok (.cons a b) (x,y) (c1++c2)
 | expr (k:Int) (n:den JF) (s:zf) (l:List Expr) (cs:List Value) (h:Rc w ok tS (k,n,s,l,()) cs):Rc w ok .expr (.mk k n s l) cs
def Df(w w':World)(ok Q0:Nat->Prop):Prop:=∀ k,ok k->Q0 k/\w'.heap[k]? = w.heap[k]?
theorem gN{w w':World}{a:Addr}(h:w'.heap[a.block]? = w.heap[a.block]?):w'.cell? a=w.cell? a:=by simp[World.cell?,h]
section
variable {w w':World} {ok Q0:Nat->Prop}
theorem Rc.mono{τ:Ty}{x:den τ}{cs:List Value}(hs:Df w w' ok Q0)(h:Rc w ok τ x cs):Rc w' Q0 τ x cs:=by
 induction h with
 | int k n=>exact .int k n
 | bool b=>exact .bool b
 | str s=>exact .str s
 | eK e a=>exact .eK e a
 | sl e l blk off cap f w7 wM h hc ih=>exact .sl e l blk off cap f (hs _ w7).1 wM ih λi hi j v hv=>by rw[gN (hs _ w7).2]; exact hc i hi j v hv
 | nil=>exact .nil
 | cons a b x y c1 c2 h1 h2 i1 i2=>exact .cons a b x y c1 c2 i1 i2
 | expr k n s l cs h ih=>exact .expr k n s l cs ih
theorem Rc.len{τ:Ty}{x:den τ}{cs:List Value}(h:Rc w ok τ x cs):cs.length=τ.size:=by
 induction h with
 | cons a b x y c1 c2 h1 h2 i1 i2=>simp[Ty.size,i1,i2]
 | expr k n s l cs h ih=>simpa[Ty.size]using ih
 | _=>rfl
theorem Rc.one{τ:Ty}{x:den τ}{cs:List Value}(h:Rc w ok τ x cs):∀ v∈cs,v.oneCell'=true:=by
 induction h with
 | cons a b x y c1 c2 h1 h2 i1 i2=>grind
 | expr k n s l cs h ih=>exact ih
 | _=>intro v hv; simp at hv; try (subst hv; rfl)
theorem Rc.kT{k:IntKind}{n:Int}{cs:List Value}(h:Rc w ok (.int k) n cs):cs=[.int k n]:=by cases h; rfl
theorem Rc.jq{n:Bool}{cs:List Value}(h:Rc w ok .bool n cs):cs=[.bool n]:=by cases h; rfl
theorem Rc.wj{n:zf}{cs:List Value}(h:Rc w ok .str n cs):cs=[.string ⟨n.toArray⟩]:=by cases h; rfl
theorem Rc.cons_inv{a b:Ty}{x:den (.cons a b)}{cs:List Value}(h:Rc w ok (.cons a b) x cs):∃ c1 c2,cs=c1++c2/\Rc w ok a x.1 c1/\Rc w ok b x.2 c2:=by
 cases h with | cons _ _ x y c1 c2 h1 h2=>exact⟨c1,c2,rfl,h1,h2⟩
theorem Rc.qc{x:den .nil}{cs:List Value}(h:Rc w ok .nil x cs):cs=[]:=by cases h; rfl
theorem Rc.Gx{x:Expr}{cs:List Value}(h:Rc w ok .expr x cs):Rc w ok tS x.Iz cs:=by cases h with | expr k n s l cs h=>exact h
theorem Rc.Zi{e:Ty}{l:List (den e)}{cs:List Value}(h:Rc w ok (.sl e) l cs):(l=[]/\∃ a,cs=[.slice a 0 0]) \/
  ∃ (blk off cap:Nat) (f:Nat->List Value),cs=[.slice (some ⟨blk,off,none⟩) l.length cap]/\ok blk/\l.length<=cap/\(∀ i (hi:i<l.length),Rc w ok e l[i] (f i)) /\
   (∀ i,i<l.length->∀ j v,(f i)[j]? = some v->w.cell? ⟨blk,off+i*e.size+j,none⟩=some v):=by
 cases h with
 | eK _ a=>simp
 | sl _ _ blk off cap f w7 wM h hc=>exact .inr ⟨blk,off,cap,f,rfl,w7,wM,h,hc⟩
end
def pk(τ:Ty)(cs:List Value):Value:=if τ.isAgg then .agg cs.toArray else cs.headD undef
structure KS where
 w:World
 ok:Nat->Prop
 ph:List (Option (Nat×Nat))
 st:St
def DO(ph:List (Option (Nat×Nat)))(b zc0:Nat)(e:Ty)(off len:Nat)(v:Value):Prop :=
 off+len<=zc0/\((len=0/\off=0/\v=.slice none 0 0/\ph[b]? = some none) \/
  ∃ (blk n o cap:Nat),ph[b]? = some (some (blk,n))/\v=.slice (some ⟨blk,o,none⟩) len cap/\len<=cap/\(off+cap)*e.size<=n/\(cap=0\/o=off*e.size))
def Old(st:St)(b qw:Nat):Prop:=st[b]? = some .dead\/∃ (v0:Nat) (e0:Ty) (rB:List (den e0)),st[b]? = some (.arr v0 e0 rB)/\qw<=v0
def D.one:D->Bool
 | .zD τ _ => !τ.isAgg
 | .agg _ | .kY _=>false
 | _=>true
def me(f:Nat)(vs:List Value):Value:=bif Nat.ble 1000000 f then .func (.func (f % 1000000)) vs.toArray #[]else .func (.func f) #[] vs.toArray
theorem Kq{f:Nat}(h:Nat.blt f 1000000=true)(vs:List Value):me f vs=.func (.func f) #[] vs.toArray:=by
 have:Nat.ble 1000000 f=false:=by
  cases hb:Nat.ble 1000000 f with
  | false=>rfl
  | true=>have h1:=Nat.le_of_ble_eq_true hb; have h2:=Nat.le_of_ble_eq_true h; omega
 unfold me; rw[this]; rfl
theorem CY{f:Nat}(h:Nat.blt f 1000000=true)(vs:List Value):me (f+1000000) vs=.func (.func f) vs.toArray #[]:=by
 have h1:Nat.ble 1000000 (f+1000000)=true:=Nat.ble_eq_true_of_le (by omega)
 have h2:=Nat.le_of_ble_eq_true h
 have h3:(f+1000000) % 1000000=f:=by omega
 unfold me; rw[h1,h3]; rfl
theorem XZ(f:Nat)(vs:List Value):(me f vs).cells.toList=[me f vs]:=by
 unfold me; cases Nat.ble 1000000 f<;>rfl
theorem Nj(f:Nat)(vs:List Value):(me f vs).oneCell'=true:=by
 unfold me; cases Nat.ble 1000000 f<;>rfl
theorem Vv(f:Nat)(vs:List Value):∃ g a b,me f vs=.func (.func g) a b:=by
 unfold me; cases Nat.ble 1000000 f<;>exact⟨_,_,_,rfl⟩
inductive RD(κ:KS):D->Value->Prop
 | zD (τ:Ty) (x:den τ) (cs:List Value) (h:Rc κ.w κ.ok τ x cs):RD κ (.zD τ x) (pk τ cs)
 | xd (e:Ty) (a:Option Addr):RD κ (.tight e ([]:List (den e)) false) (.slice a 0 0)
 | tight (e:Ty) (l:List (den e)) (ne:Bool) (blk off:Nat) (f:Nat->List Value) (vy:ne=true->l≠[]) (w7:κ.ok blk)
   (h:∀ i (hi:i<l.length),Rc κ.w κ.ok e l[i] (f i))
   (hc:∀ i,i<l.length->∀ j v,(f i)[j]? = some v->κ.w.cell? ⟨blk,off+i*e.size+j,none⟩=some v) :
   RD κ (.tight e l ne) (.slice (some ⟨blk,off,none⟩) l.length l.length)
 | xo:RD κ .xo (.slice none 0 0)
 | kG:RD κ .kG (.pointer none)
 | qP:RD κ .qP .nilIface
 | vC:RD κ .vC .nilFunc
 | vB:RD κ .vB (.map none)
 | pK (v:Value) (h:v.oneCell'=true):RD κ .pK v
 | bj (T:Nat):RD κ (.bj T) (.pointer none)
 | bC (b T:Nat) (d:D) (hd:κ.st[b]? = some (.var d)):RD κ (.kf b T) (.pointer none)
 | bE (b T blk n:Nat) (d:D) (hd:κ.st[b]? = some (.var d)) (h:κ.ph[b]? = some (some (blk,n))):RD κ (.kf b T) (.pointer (some ⟨blk,0,none⟩))
 | ptr (b off blk n:Nat) (d:D) (hd:κ.st[b]? = some (.var d)) (h:κ.ph[b]? = some (some (blk,n))):RD κ (.ptr b off) (.pointer (some ⟨blk,off,none⟩))
 | qN (τ:Ty) (x:den τ) (cs:List Value) (blk off:Nat) (w7:κ.ok blk) (h:Rc κ.w κ.ok τ x cs)
   (hc:∀ j v,cs[j]? = some v->κ.w.cell? ⟨blk,off+j,none⟩=some v):RD κ (.qN τ x) (.pointer (some ⟨blk,off,none⟩))
 | vU (b qw:Nat) (e:Ty) (idx off blk o:Nat) (hb:Old κ.st b qw)
   (h:∀ xs:List (den e),κ.st[b]? = some (.arr qw e xs)->idx<xs.length->∃ n:Nat,κ.ph[b]? = some (some (blk,n))/\o=idx*e.size+off) :
   RD κ (.vU b qw e idx off) (.pointer (some ⟨blk,o,none⟩))
 | ms (b qw:Nat) (e:Ty) (off len cap:Nat) (a:Option Addr) (hb:Old κ.st b qw) (wM:len<=cap) (ha:a=none->cap=0) (mW:∀ p,a=some p->p.spot=none)
   (h:∀ xs:List (den e),κ.st[b]? = some (.arr qw e xs)->DO κ.ph b xs.length e off len (.slice a len cap)):RD κ (.ms b qw e off len) (.slice a len cap)
 | qS (f:Nat) (l:List D) (vs:List Value) (hl:l.length=vs.length) (h:∀ i (h1:i<l.length) (h2:i<vs.length),RD κ l[i] vs[i]):RD κ (.qS f l) (me f vs)
 | agg (l:List D) (vs:List Value) (hl:l.length=vs.length) (ho:∀ d∈l,d.one=true) (h:∀ i (h1:i<l.length) (h2:i<vs.length),RD κ l[i] vs[i]):RD κ (.agg l) (.agg vs.toArray)
 | kY (l:List D) (vs:List Value) (hl:l.length=vs.length) (h:∀ i (h1:i<l.length) (h2:i<vs.length),RD κ l[i] vs[i]):RD κ (.kY l) (.tuple vs.toArray)
 | iface (t:Nat) (d:D) (v:Value) (h:RD κ d v):RD κ (.iface t d) (.iface t v)
def qA(κ:KS)(l:List D)(vs:List Value):Prop:=l.length=vs.length/\∀ i (h1:i<l.length) (h2:i<vs.length),RD κ l[i] vs[i]
def cS[pe](κ:KS)(b:Nat):jW->Prop
 | .dead=>True
 | .var d=>∃ (blk n:Nat) (cs:Array Value) (t:TypeId),κ.ph[b]? = some (some (blk,n))/\κ.w.heap[blk]? = some (.cells cs t (0,0))/\cs.size=n/\qA κ (qe d) cs.toList/\(∀ x∈qe d,x.one=true)/\∀ T,d.typed=some T->t=T
 | .arr _ e xs=>0<e.size/\((xs=[]/\κ.ph[b]? = some none) \/
   ∃ (blk n:Nat) (cs:Array Value) (t:TypeId),κ.ph[b]? = some (some (blk,n))/\κ.w.heap[blk]? = some (.cells cs t (0,0))/\cs.size=n/\xs.length*e.size<=n/\z1U e t /\
    ∃ f:Nat->List Value,∀ i (hi:i<xs.length),Rc κ.w κ.ok e xs[i] (f i)/\∀ j v,(f i)[j]? = some v->cs[i*e.size+j]? = some v)
class vz extends pe where
 tab:List (Nat×(Obj->Prop))
def rU[vz](w:World)(ok:Nat->Prop):Prop:=∀ x∈vz.tab,ok x.1/\∃ o,w.heap[x.1]? = some o/\x.2 o
theorem rU.mono[vz]{w w':World}{ok Q0:Nat->Prop}(h:rU w ok)(hs:Df w w' ok Q0):rU w' Q0:=λx hx=>by
 obtain⟨h1,o,h2,h3⟩:=h x hx
 obtain⟨g1,g2⟩:=hs _ h1
 grind
structure Inv[vz](κ:KS):Prop where
 len:κ.ph.length=κ.st.length
 y4:∀ k,κ.ok k->k<κ.w.heap.size
 apart:∀ (b blk n:Nat),κ.ph[b]? = some (some (blk,n))->blk<κ.w.heap.size/\¬ κ.ok blk
 inj:∀ (b b' blk n n':Nat),κ.ph[b]? = some (some (blk,n))->κ.ph[b']? = some (some (blk,n'))->b=b'
 blk:∀ (b:Nat) (x:jW),κ.st[b]? = some x->cS κ b x
 gl:rU κ.w κ.ok
structure Ext(κ κ':KS):Prop where
 os:κ'.w.os=κ.w.os
 tape:κ'.w.tape=κ.w.tape
 output:κ'.w.output=κ.w.output
 size:κ.w.heap.size<=κ'.w.heap.size
 same:Df κ.w κ'.w κ.ok κ'.ok
 fresh:∀ k,κ'.ok k->κ.ok k\/κ.w.heap.size<=k\/∃ b n:Nat,κ.ph[b]? = some (some (k,n))
 RI:∀ (b blk n:Nat),κ'.ph[b]? = some (some (blk,n))->κ.ph[b]? = some (some (blk,n))\/κ.w.heap.size<=blk
 var:∀ (b:Nat) (d:D),κ.st[b]? = some (.var d)->(∃ d',κ'.st[b]? = some (.var d'))/\κ'.ph[b]? = κ.ph[b]?
 arr:∀ (b v0:Nat) (e:Ty) (rB:List (den e)),κ.st[b]? = some (.arr v0 e rB)->κ'.st[b]? = some .dead \/
  ∃ (v1:Nat) (gz:List (den e)),κ'.st[b]? = some (.arr v1 e gz)/\v0<=v1/\(v0=v1->κ'.ph[b]? = κ.ph[b]? /\ rB.length=gz.length)
 dead:∀ (b:Nat),κ.st[b]? = some .dead->κ'.st[b]? = some .dead
 G9:κ.st.length<=κ'.st.length
 frame:∀ k,k<κ.w.heap.size->(∀ (b n:Nat),κ.ph[b]? ≠ some (some (k,n)))->κ'.w.heap[k]? = κ.w.heap[k]?
theorem Ext.refl(κ:KS):Ext κ κ :=
 ⟨rfl,rfl,rfl,Nat.le_refl _,λ_ h=>⟨h,rfl⟩,λ_ h=>.inl h,λ_ _ _ h=>.inl h,λ_ d h=>⟨⟨d,h⟩,rfl⟩,
  λ_ qw _ xs h=>.inr ⟨qw,xs,h,Nat.le_refl _,λ_=>⟨rfl,rfl⟩⟩,λ_ h=>h,Nat.le_refl _,λ_ _ _=>rfl⟩
theorem Ext.trans{a b c:KS}(h:Ext a b)(k:Ext b c):Ext a c:=by
 refine⟨k.os.trans h.os,k.tape.trans h.tape,k.output.trans h.output,Nat.le_trans h.size k.size,?_,?_,?_,?_,?_,λb hb=>k.dead b (h.dead b hb),Nat.le_trans h.G9 k.G9,?_⟩
 ·intro i hi
  obtain⟨h1,h2⟩:=h.same i hi
  obtain⟨h3,h4⟩:=k.same i h1
  grind
 ·intro i hi
  rcases k.fresh i hi with h1 | h1 | ⟨b,n,h1⟩
  ·exact h.fresh i h1
  ·exact .inr (.inl (Nat.le_trans h.size h1))
  ·rcases h.RI b i n h1 with h2 | h2
   ·grind
   ·grind
 ·intro i blk n hi
  rcases k.RI i blk n hi with h1 | h1
  ·exact h.RI i blk n h1
  ·exact .inr (Nat.le_trans h.size h1)
 ·intro i d hi
  obtain⟨⟨d',ke⟩,hp⟩:=h.var i d hi
  obtain⟨zfO,hp'⟩:=k.var i d' ke
  grind
 ·intro i v0 e rB hi
  rcases h.arr i v0 e rB hi with h1 | ⟨v1,x1,h1,h2,h3⟩
  ·exact .inl (k.dead i h1)
  ·rcases k.arr i v1 e x1 h1 with g1 | ⟨v2,x2,g1,g2,g3⟩
   ·grind
   ·grind
 ·intro i hi hn
  refine(k.frame i (Nat.lt_of_lt_of_le hi h.size) λb n hb => ?_).trans (h.frame i hi hn)
  rcases h.RI b i n hb with h1 | h1
  ·grind
  ·omega
theorem Ext.old{κ κ':KS}(x:Ext κ κ'){b qw:Nat}(h:Old κ.st b qw):Old κ'.st b qw:=by
 rcases h with h | ⟨v0,e0,rB,h,hv⟩
 ·exact .inl (x.dead b h)
 ·rcases x.arr b v0 e0 rB h with h1 | ⟨v1,x1,h1,h2,_⟩
  ·exact .inl h1
  ·exact .inr ⟨v1,e0,x1,h1,Nat.le_trans hv h2⟩
theorem Ext.back{κ κ':KS}(x:Ext κ κ'){b qw:Nat}(h:Old κ.st b qw){e:Ty}{xs:List (den e)}(hx:κ'.st[b]? = some (.arr qw e xs)) :
  ∃ rB:List (den e),κ.st[b]? = some (.arr qw e rB)/\κ'.ph[b]? = κ.ph[b]? /\ rB.length=xs.length:=by
 rcases h with h | ⟨v0,e0,rB,h,hv⟩
 ·have:=x.dead b h; rw[hx]at this; cases this
 ·rcases x.arr b v0 e0 rB h with h1 | ⟨v1,x1,h1,h2,h3⟩
  ·grind
  ·grind
theorem RD.mono{κ κ':KS}(x:Ext κ κ'){d:D}{v:Value}(h:RD κ d v):RD κ' d v:=by
 induction h with
 | zD τ y cs h=>exact .zD τ y cs (h.mono x.same)
 | xd e a=>exact .xd e a
 | tight e l ne blk off f vy w7 h hc=>exact .tight e l ne blk off f vy (x.same _ w7).1 (λi hi=>(h i hi).mono x.same) λi hi j v hv=>by rw[gN (x.same _ w7).2]; exact hc i hi j v hv
 | xo=>exact .xo
 | kG=>exact .kG
 | qP=>exact .qP
 | vC=>exact .vC
 | vB=>exact .vB
 | pK v h=>exact .pK v h
 | bj T=>exact .bj T
 | bC b T d hd =>
  obtain⟨⟨d',ke⟩,hp⟩:=x.var b d hd
  exact .bC b T d' ke
 | bE b T blk n d hd h =>
  obtain⟨⟨d',ke⟩,hp⟩:=x.var b d hd
  exact .bE b T blk n d' ke (hp.trans h)
 | ptr b off blk n d hd h =>
  obtain⟨⟨d',ke⟩,hp⟩:=x.var b d hd
  exact .ptr b off blk n d' ke (hp.trans h)
 | qN τ y cs blk off w7 h hc=>exact .qN τ y cs blk off (x.same _ w7).1 (h.mono x.same) λj v hv=>by rw[gN (x.same _ w7).2]; exact hc j v hv
 | vU b qw e idx off blk o hb h =>
  refine .vU b qw e idx off blk o (x.old hb) λxs hx hi => ?_
  obtain⟨rB,h1,h2,h3⟩:=x.back hb hx
  grind
 | ms b qw e off len cap a hb wM ha mW h =>
  refine .ms b qw e off len cap a (x.old hb) wM ha mW λxs hx => ?_
  obtain⟨rB,h1,h2,h3⟩:=x.back hb hx
  have:=h rB h1
  unfold DO at this ⊢
  grind
 | qS f l vs hl h ih=>exact .qS f l vs hl ih
 | agg l vs hl ho h ih=>exact .agg l vs hl ho ih
 | kY l vs hl h ih=>exact .kY l vs hl ih
 | iface t d v h ih=>exact .iface t d v ih
end Go.AM
namespace Go.AM
section
variable {α β:Type}
theorem T.zy{t:T α}{k:α->T β}{b:β}:(t.bind k).leads b↔∃ a,t.leads a/\(k a).leads b:=by
 induction t with
 | ret a=>simp[T.bind,T.leads]
 | ite c t e i1 i2 =>
  simp only[T.bind,T.leads]
  grind
 | zA p t ih =>
  simp only[T.bind,T.leads]; constructor
  ·grind
  ·grind
 | fail=>simp[T.bind,T.leads]
theorem T.vM{o:Option α}{a:α}:(T.Js o).leads a↔o=some a:=by cases o<;>simp[T.Js,T.leads]
end
section
variable {κ:KS}
theorem qA.nil:qA κ [] []:=⟨rfl,λi h _=>absurd h (Nat.not_lt_zero i)⟩
theorem qA.cons{d:D}{v:Value}{l:List D}{vs:List Value}(h:RD κ d v)(t:qA κ l vs):qA κ (d::l) (v::vs) :=
 ⟨by simp[t.1],λi h1 h2=>by cases i with | zero=>exact h | succ i=>exact t.2 i (by grind) (by grind)⟩
theorem qA.cons_inv{d:D}{l:List D}{vs:List Value}(h:qA κ (d::l) vs):∃ v r,vs=v::r/\RD κ d v/\qA κ l r:=by
 obtain⟨hl,h⟩:=h
 cases vs with
 | nil=>simp at hl
 | cons v r=>exact⟨v,r,rfl,h 0 (by simp) (by simp),by grind,λi h1 h2=>h (i+1) (by grind) (by grind)⟩
theorem qA.qc{vs:List Value}(h:qA κ [] vs):vs=[]:=List.eq_nil_of_length_eq_zero h.1.symm
theorem qA.append{l l':List D}{vs vs':List Value}(h:qA κ l vs)(h':qA κ l' vs'):qA κ (l++l') (vs++vs'):=by
 induction l generalizing vs with
 | nil=>rw[h.qc]; exact h'
 | cons d l ih=>obtain⟨v,r,rfl,h1,h2⟩:=h.cons_inv; exact .cons h1 (ih h2)
theorem qA.Cp{l l':List D}{vs:List Value}(h:qA κ (l++l') vs):∃ v1 v2,vs=v1++v2/\qA κ l v1/\qA κ l' v2:=by
 induction l generalizing vs with
 | nil=>exact⟨[],vs,rfl,.nil,h⟩
 | cons d l ih =>
  obtain⟨v,r,rfl,h1,h2⟩:=h.cons_inv
  obtain⟨v1,v2,rfl,h3,h4⟩:=ih h2
  exact⟨v::v1,v2,rfl,.cons h1 h3,h4⟩
theorem qA.get{l:List D}{vs:List Value}(h:qA κ l vs){i:Nat}{d:D}(hd:l[i]? = some d):∃ v,vs[i]? = some v/\RD κ d v:=by
 obtain⟨qs,he⟩:=List.getElem?_eq_some_iff.1 hd
 have h2:i<vs.length:=h.1▸qs
 exact⟨vs[i],List.getElem?_eq_getElem h2,he▸h.2 i qs h2⟩
theorem qA.take{l:List D}{vs:List Value}(h:qA κ l vs)(n:Nat):qA κ (l.take n) (vs.take n) :=
 ⟨by simp[h.1],λi h1 h2=>by simp; exact h.2 i (by grind) (by grind)⟩
theorem qA.drop{l:List D}{vs:List Value}(h:qA κ l vs)(n:Nat):qA κ (l.drop n) (vs.drop n) :=
 ⟨by simp[h.1],λi h1 h2=>by simp; exact h.2 (n+i) (by grind) (by grind)⟩
theorem qA.mono{κ':KS}(x:Ext κ κ'){l:List D}{vs:List Value}(h:qA κ l vs):qA κ' l vs:=⟨h.1,λi h1 h2=>(h.2 i h1 h2).mono x⟩
theorem tV{τ:Ty}{cs:List Value}(h:cs.length=τ.size)(nQ:∀ v∈cs,v.oneCell'=true):(pk τ cs).cells.toList=cs:=by
 unfold pk
 split
 ·rfl
 ·rename_i hn
  have hs:τ.size=1:=by cases τ<;>simp[Ty.isAgg]at hn<;>rfl
  match cs,h,nQ with
  | [v],_,nQ =>
   have:=nQ v (by simp)
   cases v<;>first | rfl | cases this
  | [],h,_=>grind
  | _::_::_,h,_=>grind
theorem XP{τ:Ty}(h:τ.isAgg=false)(v:Value):pk τ [v]=v:=by simp[pk,h]
theorem ZV{τ:Ty}(h:τ.isAgg=false):τ.size=1:=by cases τ<;>simp[Ty.isAgg]at h<;>rfl
theorem Rc.single{w:World}{ok:Nat->Prop}{τ:Ty}{x:den τ}{cs:List Value}(h:Rc w ok τ x cs)(ht:τ.isAgg=false):∃ v,cs=[v]:=by
 have:=h.len
 rw[ZV ht]at this
 match cs,this with
 | [v],_=>simp
theorem RD.ik{τ:Ty}{x:den τ}{v:Value}(ht:τ.isAgg=false)(h:Rc κ.w κ.ok τ x [v]):RD κ (.zD τ x) v:=by
 have:=RD.zD τ x [v] h
 rwa [XP ht]at this
theorem RD.gb{τ:Ty}{x:den τ}{v:Value}(h:RD κ (.zD τ x) v):∃ cs,Rc κ.w κ.ok τ x cs/\v=pk τ cs:=by
 cases h with | zD _ _ cs h=>exact⟨cs,h,rfl⟩
theorem RD.wU{τ:Ty}{x:den τ}{v:Value}(h:RD κ (.zD τ x) v)(ht:τ.isAgg=false):Rc κ.w κ.ok τ x [v]:=by
 obtain⟨cs,hc,rfl⟩:=RD.gb h
 obtain⟨u,rfl⟩:=hc.single ht
 rwa [XP ht]
theorem RD.int{k:IntKind}{n:Int}:RD κ (.zD (.int k) n) (.int k n):=RD.ik rfl (.int k n)
theorem RD.bool{b:Bool}:RD κ (.zD .bool b) (.bool b):=RD.ik rfl (.bool b)
theorem RD.str{s:zf}:RD κ (.zD .str s) (.string ⟨s.toArray⟩):=RD.ik rfl (.str s)
theorem RD.kT{k:IntKind}{n:Int}{v:Value}(h:RD κ (.zD (.int k) n) v):v=.int k n:=by have:=(h.wU rfl).kT; simpa using this
theorem RD.jq{b:Bool}{v:Value}(h:RD κ (.zD .bool b) v):v=.bool b:=by have:=(h.wU rfl).jq; simpa using this
theorem RD.wj{s:zf}{v:Value}(h:RD κ (.zD .str s) v):v=.string ⟨s.toArray⟩:=by have:=(h.wU rfl).wj; simpa using this
theorem qA.one{d:D}{v:Value}(h:RD κ d v):qA κ [d] [v]:=.cons h .nil
theorem mK{τ:Ty}{x:den τ}{cs:List Value}(h:Rc κ.w κ.ok τ x cs):qA κ (flat τ x) cs:=by
 induction τ generalizing cs with
 | int k=>obtain⟨v,rfl⟩:=h.single rfl; exact .one (.ik rfl h)
 | bool=>obtain⟨v,rfl⟩:=h.single rfl; exact .one (.ik rfl h)
 | str=>obtain⟨v,rfl⟩:=h.single rfl; exact .one (.ik rfl h)
 | sl e _=>obtain⟨v,rfl⟩:=h.single rfl; exact .one (.ik rfl h)
 | nil=>rw[h.qc]; exact .nil
 | cons a b i1 i2=>obtain⟨c1,c2,rfl,h1,h2⟩:=h.cons_inv; exact(i1 h1).append (i2 h2)
 | expr =>
  obtain⟨c1,r1,rfl,h1,t1⟩:=h.Gx.cons_inv
  obtain⟨c2,r2,rfl,h2,t2⟩:=t1.cons_inv
  obtain⟨c3,r3,rfl,h3,t3⟩:=t2.cons_inv
  obtain⟨c4,r4,rfl,h4,t4⟩:=t3.cons_inv
  have e4:=t4.qc
  subst e4
  obtain⟨d1,s1,rfl,g1,u1⟩:=h2.cons_inv
  obtain⟨d2,s2,rfl,g2,u2⟩:=u1.cons_inv
  obtain⟨d3,s3,rfl,g3,u3⟩:=u2.cons_inv
  have e5:=u3.qc
  subst e5
  obtain⟨v1,rfl⟩:=h1.single rfl
  obtain⟨v3,rfl⟩:=h3.single rfl
  obtain⟨v4,rfl⟩:=h4.single rfl
  obtain⟨u1,rfl⟩:=g1.single rfl
  obtain⟨u2,rfl⟩:=g2.single rfl
  obtain⟨u3,rfl⟩:=g3.single rfl
  exact .cons (.ik rfl h1) (.cons (.ik rfl g1) (.cons (.ik rfl g2) (.cons (.ik rfl g3) (.cons (.ik rfl h3) (.cons (.ik rfl h4) .nil)))))
theorem dF:∀ (τ:Ty) (x:den τ),∀ d∈flat τ x,d.one=true
 | .int _,_,d,h | .bool,_,d,h | .str,_,d,h | .sl _,_,d,h=>by simp[flat]at h; subst h; rfl
 | .nil,_,d,h=>by simp[flat]at h
 | .cons a b,x,d,h=>by
  simp only[flat,List.mem_append]at h
  rcases h with h | h
  ·exact dF a x.1 d h
  ·exact dF b x.2 d h
 | .expr,x,d,h=>by simp[flat]at h; rcases h with rfl | rfl | rfl | rfl | rfl | rfl<;>rfl
theorem sL:∀ (τ:Ty) (x:den τ),(flat τ x).length=τ.size
 | .int _,_ | .bool,_ | .str,_ | .sl _,_ | .nil,_ | .expr,_=>rfl
 | .cons a b,x=>by simp[flat,Ty.size,sL a,sL b]
theorem J8{v:Value}(h:v.oneCell'=true):v.cells = #[v]:=by
 cases v<;>first | rfl | cases h
theorem uN{d:D}{v:Value}(h:RD κ d v)(ht:d.uj=false):qA κ (qe d) v.cells.toList:=by
 cases h with
 | zD τ x cs h=>rw[tV h.len h.one]; exact mK h
 | agg l vs hl ho h=>exact⟨by simpa[Value.cells,qe]using hl,λi h1 h2=>by simp at h2 ⊢; exact h i h1 h2⟩
 | kY=>cases ht
 | xd e a=>exact .one (.xd e a)
 | tight e l ne blk off f vy w7 h hc=>exact .one (.tight e l ne blk off f vy w7 h hc)
 | xo=>exact .one .xo
 | kG=>exact .one .kG
 | qP=>exact .one .qP
 | vC=>exact .one .vC
 | vB=>exact .one .vB
 | pK v h=>rw[J8 h]; exact .one (.pK v h)
 | bj T=>exact .one (.bj T)
 | bC b T d hd=>exact .one (.bC b T d hd)
 | bE b T blk n d hd h=>exact .one (.bE b T blk n d hd h)
 | ptr b off blk n d hd h=>exact .one (.ptr b off blk n d hd h)
 | qN τ x cs blk off w7 h hc=>exact .one (.qN τ x cs blk off w7 h hc)
 | vU b qw e idx off blk o hb h=>exact .one (.vU b qw e idx off blk o hb h)
 | ms b qw e off len cap a hb wM ha mW h=>exact .one (.ms b qw e off len cap a hb wM ha mW h)
 | qS f l vs hl h=>rw[XZ]; exact .one (.qS f l vs hl h)
 | iface t d v h=>exact .one (.iface t d v h)
theorem uL{d:D}{v:Value}(h:RD κ d v):∀ x∈qe d,x.one=true:=by
 cases h with
 | zD τ x cs h=>exact dF τ x
 | agg l vs hl ho h=>exact ho
 | kY=>nofun
 | _=>intro x hx; simp[qe]at hx; subst hx; rfl
theorem RD.Xi{d:D}{v:Value}(h:RD κ d v)(ho:d.one=true):v.oneCell'=true:=by
 cases h with
 | zD τ x cs h =>
  have ht:τ.isAgg=false:=by simpa[D.one]using ho
  obtain⟨v,rfl⟩:=h.single ht
  rw[XP ht]
  exact h.one v (by simp)
 | agg=>cases ho
 | kY=>cases ho
 | pK v h=>exact h
 | qS f l vs=>exact Nj f vs
 | _=>rfl
theorem qj{a b:Ty}{x:den a}{y:den b}(h:(wv x:Option (den b))=some y):∃ e:a=b,y=e▸x:=by
 unfold wv at h
 grind
theorem kJ{τ:Ty}{d:D}{v:Value}{x:den τ}(h:RD κ d v)(hx:dh τ d=some x)(ht:τ.isAgg=false):Rc κ.w κ.ok τ x [v]:=by
 cases h with
 | zD σ y cs h =>
  obtain⟨rfl,rfl⟩:=qj hx
  obtain⟨u,rfl⟩:=h.single ht
  rwa [XP ht]
 | xd e a=>obtain⟨rfl,rfl⟩:=qj hx; exact .eK e a
 | tight e l ne blk off f vy w7 h hc=>obtain⟨rfl,rfl⟩:=qj hx; exact .sl e _ blk off _ f w7 (Nat.le_refl _) h hc
 | xo =>
  cases τ with
  | sl e=>simp[dh]at hx; subst hx; exact .eK e none
  | _=>simp[dh]at hx
 | _=>simp[dh]at hx
theorem nY:∀ (τ:Ty) {ds:List D} {vs:List Value} {x:den τ} {r:List D},qA κ ds vs->uS τ ds=some (x,r) ->
  ∃ c1 c2,vs=c1++c2/\Rc κ.w κ.ok τ x c1/\qA κ r c2
 | .int k,[],_,_,_,_,he | .bool,[],_,_,_,_,he | .str,[],_,_,_,_,he | .sl e,[],_,_,_,_,he | .expr,[],_,_,_,_,he=>by simp[uS]at he
 | .int k,d::r,vs,x,r',h,he=>by
  simp only[uS]at he
  split at he
  ·rename_i y hy; cases he; obtain⟨v,u,rfl,h1,h2⟩:=h.cons_inv; exact⟨[v],u,rfl,kJ h1 hy rfl,h2⟩
  ·cases he
 | .bool,d::r,vs,x,r',h,he=>by
  simp only[uS]at he
  split at he
  ·rename_i y hy; cases he; obtain⟨v,u,rfl,h1,h2⟩:=h.cons_inv; exact⟨[v],u,rfl,kJ h1 hy rfl,h2⟩
  ·cases he
 | .str,d::r,vs,x,r',h,he=>by
  simp only[uS]at he
  split at he
  ·rename_i y hy; cases he; obtain⟨v,u,rfl,h1,h2⟩:=h.cons_inv; exact⟨[v],u,rfl,kJ h1 hy rfl,h2⟩
  ·cases he
 | .sl e,d::r,vs,x,r',h,he=>by
  simp only[uS]at he
  split at he
  ·rename_i y hy; cases he; obtain⟨v,u,rfl,h1,h2⟩:=h.cons_inv; exact⟨[v],u,rfl,kJ h1 hy rfl,h2⟩
  ·cases he
 | .nil,ds,vs,x,r,h,he=>by simp only[uS]at he; cases he; exact⟨[],vs,rfl,.nil,h⟩
 | .cons a b,ds,vs,x,r,h,he=>by
  simp only[uS]at he
  split at he
  ·rename_i y r' hy
   split at he
   ·rename_i z r'' hz
    cases he
    obtain⟨c1,c2,rfl,h1,h2⟩:=nY a h hy
    obtain⟨c3,c4,rfl,h3,h4⟩:=nY b h2 hz
    exact⟨c1++c3,c4,by simp,.cons a b y z c1 c3 h1 h3,h4⟩
   ·cases he
  ·cases he
 | .expr,d::r,vs,x,r',h,he=>by
  simp only[uS]at he
  split at he
  ·cases he
  ·rename_i k hk
   split at he
   ·rename_i d1 d2 d3 d4 d5 r0
    split at he
    ·rename_i a n m s l ha hn hm hs hl
     cases he
     obtain⟨v,u,rfl,h0,t0⟩:=h.cons_inv
     obtain⟨v1,u1,rfl,h1,t1⟩:=t0.cons_inv
     obtain⟨v2,u2,rfl,h2,t2⟩:=t1.cons_inv
     obtain⟨v3,u3,rfl,h3,t3⟩:=t2.cons_inv
     obtain⟨v4,u4,rfl,h4,t4⟩:=t3.cons_inv
     obtain⟨v5,u5,rfl,h5,t5⟩:=t4.cons_inv
     refine⟨[v]++(([v1]++([v2]++([v3]++[])))++([v4]++([v5]++[]))),u5,by simp,.expr _ _ _ _ _ ?_,t5⟩
     exact .cons i64 _ k _ _ _ (kJ h0 hk rfl) (.cons JF _ (a,n,m,()) _ _ _ (.cons .bool _ a _ _ _ (kJ h1 ha rfl) (.cons _ _ n _ _ _ (kJ h2 hn rfl) (.cons _ _ m _ _ _ (kJ h3 hm rfl) .nil)))
      (.cons .str _ s _ _ _ (kJ h4 hs rfl) (.cons _ _ l _ _ _ (kJ h5 hl rfl) .nil)))
    ·cases he
   ·cases he
theorem gX{τ:Ty}{d:D}{v:Value}{x:den τ}(h:RD κ d v)(hx:cN τ d=some x):RD κ (.zD τ x) v:=by
 have key:(∀ σ y,d≠.zD σ y)->(bif (d.isAgg==τ.isAgg) && !d.uj then(match uS τ (qe d)with | some (x,[])=>some x | _=>none)else none)=some x->RD κ (.zD τ x) v:=by
  intro hni hx
  cases hc:(d.isAgg==τ.isAgg) && !d.uj with
  | false=>grind
  | true =>
  rw[hc]at hx
  simp at hc
  obtain⟨z4E,YS⟩:=hc
  split at hx
  ·rename_i y hy
   cases hx
   obtain⟨c1,c2,he,h1,h2⟩:=nY τ (uN h YS) hy
   have e2:=h2.qc
   subst e2
   rw[List.append_nil]at he
   have hv:v=pk τ c1:=by
    rw[<- he]
    cases hd:d.isAgg with
    | true =>
     cases d<;>simp[D.isAgg]at hd
     cases h with | agg l vs hl ho h=>simp[pk,D.isAgg]at z4E ⊢; simp[<- z4E,Value.cells]
    | false =>
     simp only[pk,<- z4E]
     cases h<;>first | rfl | (rw[XZ]; rfl) | (rename_i hu; rw[J8 hu]; rfl) | (rename_i σ y cs hc; exact absurd rfl (hni σ y)) | (simp at hd; done) | (simp at YS; done)
   rw[hv]
   exact .zD τ _ c1 h1
  ·cases hx
 cases d with
 | zD σ y=>obtain⟨rfl,rfl⟩:=qj hx; exact h
 | _=>exact key (λ_ _=>nofun) hx
end
end Go.AM
namespace Go.AM
set_option linter.unusedSectionVars false
variable [vz]
def qt(P:Program)(s:Sem Next)(κ:KS)(d:Option D)(zq:St):Prop :=
 ∃ (κ':KS) (n:Next) (v:Value),s.run P κ.w=.ok n κ'.w/\(n=.value v\/(n=.skip/\v=undef))/\κ'.st=zq/\Inv κ'/\Ext κ κ'/\∀ d',d=some d'->RD κ' d' v
section
variable {c:Ctx} {κ:KS}
theorem qt.pure{s:Sem Value}{d:D}{v:Value}(hi:Inv κ)(h:s.run c.P κ.w=.ok v κ.w)(hd:RD κ d v):qt c.P (do Pure.pure (.value (<- s))) κ (some d) κ.st :=
 ⟨κ,.value v,v,by simp[h],.inl rfl,rfl,hi,Ext.refl κ,λ_ he=>by grind⟩
theorem qt.val{d:Option D}{v:Value}(hi:Inv κ)(hd:∀ d',d=some d'->RD κ d' v):qt c.P (Pure.pure (.value v)) κ d κ.st :=
 ⟨κ,.value v,v,rfl,.inl rfl,rfl,hi,Ext.refl κ,hd⟩
theorem cR{t n:Nat}(h:eE c t=some n):∃ i,c.P.info? t=some i/\i.size=n:=by
 unfold eE at h
 cases hi:c.P.info? t with
 | none=>grind
 | some i=>grind
theorem run_sizeOf{t n:Nat}(h:eE c t=some n)(w:World):(sizeOf t).run c.P w=.ok n w:=by
 obtain⟨i,h1,h2⟩:=cR h
 simp[sizeOf,typeInfo,h1,h2]
theorem oO{t:Nat}{b:Bool}(h:G6 c t=some b)(w:World):(isAgg t).run c.P w=.ok b w:=by
 unfold G6 at h
 cases hu:c.P.underlying t with
 | none=>grind
 | some d =>
  simp only[isAgg,Sem.run_bind,run_underlying hu]
  cases d<;>simp[hu]at h<;>simp[<- h]
theorem wZ{t:Nat}{τ:Ty}(h:jK c t τ=true):eE c t=some τ.size/\G6 c t=some τ.isAgg:=by
 unfold jK at h
 simp at h
 obtain⟨⟨_,h1⟩,h2⟩:=h
 constructor
 ·split at h1
  ·rename_i n hn; rw[hn,Nat.eq_of_beq_eq_true h1]
  ·cases h1
 ·grind
theorem Z2{t:Nat}{τ:Ty}(h:jK c t τ=true):z1U τ t:=by
 unfold jK at h
 simp at h
 intro e
 subst e
 exact Nat.eq_of_beq_eq_true h.1.1
omit [vz]in
theorem vc(blk o j:Nat):(⟨blk,o,none⟩:Addr).add j=⟨blk,o+j,none⟩:=by unfold Addr.add; split<;>simp_all
theorem eP{t:Nat}{b:Bool}{n blk o:Nat}{cs:List Value}(ha:G6 c t=some b)(hn:eE c t=some n)(hl:cs.length=n)(h1:b=false->n=1)
  (hc:∀ j v,cs[j]? = some v->κ.w.cell? ⟨blk,o+j,none⟩=some v) :
  (loadVar t ⟨blk,o,none⟩).run c.P κ.w=.ok (if b then .agg cs.toArray else cs.headD undef) κ.w:=by
 simp only[loadVar,Sem.run_bind,oO ha]
 cases b with
 | true =>
  simp[if_true,run_sizeOf hn]
  rw[<- hl,run_loadCells_list κ.w ⟨blk,o,none⟩ cs (λj v hj=>by rw[vc]; exact hc j v hj)]
  simp
 | false =>
  have:=h1 rfl
  subst this
  match cs,hl with
  | [v],_ =>
   have:=hc 0 v rfl
   simp at this
   simp[this]
theorem ML{t:Nat}{τ:Ty}{x:den τ}{cs:List Value}{blk o:Nat}(ht:jK c t τ=true)(h:Rc κ.w κ.ok τ x cs)
  (hc:∀ j v,cs[j]? = some v->κ.w.cell? ⟨blk,o+j,none⟩=some v):(loadVar t ⟨blk,o,none⟩).run c.P κ.w=.ok (pk τ cs) κ.w:=by
 obtain⟨h1,h2⟩:=wZ ht
 rw[eP (c:=c) h2 h1 h.len (λe=>ZV e) hc]
 rfl
theorem wH{t:T (Option D)}{st zq:St}{d:Option D}:(zB (.val t) st).leads (d,zq)↔t.leads d/\zq=st:=by
 simp only[zB,T.zy,T.leads]
 grind
theorem fI{k:St->T (Option D)}{st zq:St}{d:Option D}:(zB (.rd k) st).leads (d,zq)↔(k st).leads d/\zq=st:=by
 simp only[zB,T.zy,T.leads]
 grind
theorem ze{st:St}{r:Option D×St}:¬ (zB bad st).leads r:=by nofun
theorem jj{x:D}{st zq:St}{d:Option D}:(zB (AM.val x) st).leads (d,zq)↔d=some x/\zq=st:=by
 rw[AM.val,wH]; simp only[T.leads]; exact⟨λh=>⟨h.1.symm,h.2⟩,λh=>⟨h.1.symm,h.2⟩⟩
theorem va{p:Prop}{x:D}{st zq:St}{d:Option D}:(zB (.val (.zA p (.ret (some x)))) st).leads (d,zq)↔p/\d=some x/\zq=st:=by
 rw[wH]; simp only[T.leads]
 grind
theorem Ve{x:Option D}{st zq:St}{d:Option D}(h:(zB (T1 x) st).leads (d,zq)):∃ y,x=some y/\d=some y/\zq=st:=by
 cases x with
 | none=>exact absurd h ze
 | some y=>rw[T1,wH]at h; exact⟨y,rfl,h.1.symm,h.2⟩
theorem Xt:∀ (τ:Ty) (x:den τ) {cs:List Value},qA κ (flat τ x) cs->Rc κ.w κ.ok τ x cs
 | .int k,x,cs,h=>by obtain⟨v,r,rfl,h1,h2⟩:=h.cons_inv; rw[h2.qc]; exact h1.wU rfl
 | .bool,x,cs,h=>by obtain⟨v,r,rfl,h1,h2⟩:=h.cons_inv; rw[h2.qc]; exact h1.wU rfl
 | .str,x,cs,h=>by obtain⟨v,r,rfl,h1,h2⟩:=h.cons_inv; rw[h2.qc]; exact h1.wU rfl
 | .sl e,x,cs,h=>by obtain⟨v,r,rfl,h1,h2⟩:=h.cons_inv; rw[h2.qc]; exact h1.wU rfl
 | .nil,x,cs,h=>by rw[h.qc]; exact .nil
 | .cons a b,x,cs,h=>by
  obtain⟨c1,c2,rfl,h1,h2⟩:=qA.Cp h
  exact .cons a b x.1 x.2 c1 c2 (Xt a x.1 h1) (Xt b x.2 h2)
 | .expr,.mk k (a,n,m,()) s l,cs,h=>by
  obtain⟨v,u,rfl,h0,t0⟩:=h.cons_inv
  obtain⟨v1,u1,rfl,h1,t1⟩:=t0.cons_inv
  obtain⟨v2,u2,rfl,h2,t2⟩:=t1.cons_inv
  obtain⟨v3,u3,rfl,h3,t3⟩:=t2.cons_inv
  obtain⟨v4,u4,rfl,h4,t4⟩:=t3.cons_inv
  obtain⟨v5,u5,rfl,h5,t5⟩:=t4.cons_inv
  rw[t5.qc]
  exact .expr _ _ _ _ _ (.cons i64 _ k _ _ _ (h0.wU rfl) (.cons JF _ (a,n,m,()) _ _ _ (.cons .bool _ a _ _ _ (h1.wU rfl) (.cons (.sl u32) (.cons (.sl u32) .nil) n (m,()) [v2] ([v3]++[]) (h2.wU rfl) (.cons (.sl u32) .nil m () [v3] [] (h3.wU rfl) .nil)))
      (.cons .str _ s _ _ _ (h4.wU rfl) (.cons (.sl .expr) .nil l () [v5] [] (h5.wU rfl) .nil))))
theorem FW{t:Nat}{d r:D}{off:Nat}{vs:List Value}(h:Dg c t d off=some r)(hd:qA κ (qe d) vs)(nQ:∀ x∈qe d,x.one=true) :
  (∃ n,G6 c t=some true/\eE c t=some n/\off+n<=vs.length/\RD κ r (.agg ((vs.drop off).take n).toArray)) \/
  (∃ v,G6 c t=some false/\vs[off]? = some v/\RD κ r v):=by
 unfold Dg at h
 split at h
 ·rename_i ha
  split at h
  ·cases h
  ·rename_i n hn
   refine .inl ⟨n,ha,hn,?_⟩
   cases hb:(Nat.beq off 0&&Nat.beq n (qe d).length&&d.z7Q)with
   | true =>
    rw[hb]at h
    simp at h
    subst h
    simp only[Bool.and_eq_true]at hb
    obtain⟨⟨h1,h2⟩,h3⟩:=hb
    have e1:off=0:=Nat.eq_of_beq_eq_true h1
    have e2:n=(qe d).length:=Nat.eq_of_beq_eq_true h2
    subst e1
    have hl:=hd.1
    rw[e2,hl]
    refine⟨by omega,?_⟩
    simp
    cases d with
    | zD τ x =>
     have:=RD.zD τ x vs (Xt τ x hd)
     simpa[pk,show τ.isAgg=true from h3]using this
    | agg l=>exact .agg l vs hl nQ hd.2
    | _=>cases h3
   | false =>
    rw[hb]at h
    split at h
    ·rename_i l hl
     cases h
     unfold J4 at hl
     cases hle:Nat.ble (off+n) (qe d).length with
     | false=>grind
     | true =>
      rw[hle]at hl
      cases hl
      have Ul:=Nat.le_of_ble_eq_true hle
      refine⟨by rw[<- hd.1]; exact Ul,?_⟩
      have ht:=(hd.drop off).take n
      exact .agg _ _ ht.1 (λx hx=>nQ x (List.mem_of_mem_drop (List.mem_of_mem_take hx))) ht.2
    ·cases h
 ·rename_i ha
  obtain⟨v,h1,h2⟩:=hd.get h
  grind
 ·cases h
theorem WO{t:Nat}{d r:D}{off blk:Nat}{vs:List Value}(base:Nat)(h:Dg c t d off=some r)(hd:qA κ (qe d) vs)(nQ:∀ x∈qe d,x.one=true)
  (hc:∀ j v,vs[j]? = some v->κ.w.cell? ⟨blk,base+j,none⟩=some v):∃ v,(loadVar t ⟨blk,base+off,none⟩).run c.P κ.w=.ok v κ.w/\RD κ r v:=by
 rcases FW h hd nQ with⟨n,ha,hn,hle,hr⟩ | ⟨v,ha,hv,hr⟩
 ·refine⟨_,?_,hr⟩
  rw[eP (c:=c) (b:=true) (cs:=(vs.drop off).take n) ha hn (by grind) nofun]
  ·simp
  ·grind
 ·refine⟨v,?_,hr⟩
  simp only[loadVar,Sem.run_bind,oO ha]
  simp[hc off v hv]
theorem Inv.I3{κ:KS}(hi:Inv κ){b:Nat}{x:jW}(h:κ.st[b]? = some x):cS κ b x:=hi.blk b x h
theorem oQ{blk:Nat}{cs:Array Value}{t:TypeId}{fz:Nat×Nat}(h:κ.w.heap[blk]? = some (.cells cs t fz))(o:Nat):κ.w.cell? ⟨blk,o,none⟩=cs[o]? := by
 simp[World.cell?,h]
theorem L1{t:Nat}{x:Option D}{v:Value}{d:Option D}{zq:St}(hi:Inv κ)(hx:∀ y,x=some y->RD κ y v)(h:(zB (Wv c t x) κ.st).leads (d,zq)) :
  qt c.P (do Pure.pure (.value (<- Instr.loadAt t v))) κ d zq:=by
 unfold Wv at h
 split at h
 ·rename_i τ y
  cases ht:jK c t τ with
  | false=>rw[ht]at h; exact absurd h ze
  | true =>
   rw[ht,cond_true,jj]at h
   obtain⟨rfl,rfl⟩:=h
   cases hx _ rfl with
   | qN _ _ cs blk off w7 hr hc =>
    exact qt.pure hi (by simp[Instr.loadAt,Instr.sureAddr,ML ht hr hc]) (.zD τ y cs hr)
 ·rename_i b off
  rw[fI]at h
  obtain⟨h,rfl⟩:=h
  split at h
  ·rename_i d0 hb
   split at h
   ·rename_i r hr
    cases h
    cases hx _ rfl with
    | ptr _ _ blk n d1 hd hp =>
     obtain⟨fS,n',cs,T,g1,g2,g3,g4,g5⟩:=hi.blk b _ hb
     rw[hp]at g1
     cases g1
     obtain⟨v,h1,h2⟩:=WO (c:=c) (blk:=blk) 0 hr g4 g5.1 (λj v hj=>by rw[oQ g2]; simpa using hj)
     rw[Nat.zero_add]at h1
     exact qt.pure hi (by simp[Instr.loadAt,Instr.sureAddr,h1]) h2
   ·exact h.elim
  ·exact h.elim
 ·rename_i b qw e idx off
  rw[fI]at h
  obtain⟨h,rfl⟩:=h
  split at h
  ·rename_i jv e' xs hb
   cases he:decide (e'=e)with
   | false=>rw[he]at h; exact h.elim
   | true =>
    rw[he,cond_true]at h
    have My:e'=e:=of_decide_eq_true he
    subst My
    obtain⟨⟨rfl,qs⟩,h⟩:=h
    split at h
    ·rename_i r hr
     cases h
     cases hx _ rfl with
     | vU _ _ _ _ _ blk o hold hp =>
      obtain⟨n,p1,rfl⟩:=hp xs hb qs
      obtain⟨uo,⟨Wg,_⟩ | ⟨fS,n',cs,T,g1,g2,g3,g4,gr,f,g5⟩⟩:=hi.blk b _ hb
      ·grind
      ·rw[p1]at g1
       cases g1
       have hg:xs.getD idx (zj e')=xs[idx]:=by simp[List.getD,List.getElem?_eq_getElem qs]
       rw[hg]at hr
       obtain⟨k1,k2⟩:=g5 idx qs
       obtain⟨v,h1,h2⟩:=WO (c:=c) (blk:=blk) (idx*e'.size) hr (mK k1) (dF _ _) (λj v hj=>by rw[oQ g2]; exact k2 j v hj)
       exact qt.pure hi (by simp[Instr.loadAt,Instr.sureAddr,h1]) h2
    ·exact h.elim
  ·exact h.elim
 ·exact absurd h ze
end
end Go.AM
namespace Go.AM
set_option linter.unusedSectionVars false
variable [vz]
section
variable {c:Ctx} {κ:KS}
theorem Yo{s f o n:Nat}(h:X8 c s f=some (o,n)):∃ fs fd,c.P.underlying s=some (.struct fs)/\fs[f]? = some fd/\eE c fd.type=some n/\n≠0/\fd.offset=o:=by
 unfold X8 at h
 split at h
 ·rename_i fs hu
  split at h
  ·rename_i fd hf
   split at h
   ·rename_i m hm
    cases hb:Nat.beq m 0 with
    | true=>grind
    | false =>
     rw[hb]at h
     cases h
     refine⟨fs,fd,hu,hf,hm,?_,rfl⟩
     intro e
     subst e
     cases hb
   ·cases h
  ·cases h
 ·cases h
theorem na{s f o n blk p:Nat}(h:X8 c s f=some (o,n))(w:World) :
  (Instr.fieldAt s (.pointer (some ⟨blk,p,none⟩)) f).run c.P w=.ok (.pointer (some ⟨blk,p+o,none⟩)) w:=by
 obtain⟨fs,fd,h1,h2,h3,h4,h5⟩:=Yo h
 simp[Instr.fieldAt,run_underlying h1,h2,Instr.sureAddr,fieldPlace,run_sizeOf h3,h4,vc]
theorem VG:∀ (τ:Ty) (x:den τ) (n:Nat) {d:D} {o s:Nat} {cs:List Value},nw τ x n=some (d,o,s)->Rc κ.w κ.ok τ x cs ->
  ∃ (σ:Ty) (y:den σ) (c2:List Value),d=.qN σ y/\Rc κ.w κ.ok σ y c2/\s=σ.size/\∀ j v,c2[j]? = some v->cs[o+j]? = some v
 | .cons a b,x,0,d,o,s,cs,h,hr=>by
  simp only[nw]at h
  cases h
  obtain⟨c1,c2,rfl,h1,h2⟩:=hr.cons_inv
  grind
 | .cons a b,x,n+1,d,o,s,cs,h,hr=>by
  simp only[nw]at h
  split at h
  ·rename_i d' o' s' h'
   cases h
   obtain⟨c1,c2,rfl,h1,h2⟩:=hr.cons_inv
   obtain⟨σ,y,c3,e1,e2,e3,e4⟩:=VG b x.2 n h' h2
   refine⟨σ,y,c3,e1,e2,e3,λj v hj => ?_⟩
   have:=h1.len
   grind
  ·cases h
 | .expr,.mk k (a,n,m,()) s l,i,d,o,z,cs,h,hr=>by
  obtain⟨c1,r1,rfl,h1,t1⟩:=hr.Gx.cons_inv
  obtain⟨c2,r2,rfl,h2,t2⟩:=t1.cons_inv
  obtain⟨c3,r3,rfl,h3,t3⟩:=t2.cons_inv
  obtain⟨c4,r4,rfl,h4,t4⟩:=t3.cons_inv
  have e4:=t4.qc
  subst e4
  have l2:c2.length=3:=h2.len
  obtain⟨v1,rfl⟩:=h1.single rfl
  obtain⟨v3,rfl⟩:=h3.single rfl
  obtain⟨v4,rfl⟩:=h4.single rfl
  match i,h with
  | 0,h=>simp only[nw]at h; cases h; exact⟨i64,_,_,rfl,h1,rfl,λj v hj=>by match j,hj with | 0,hj=>simpa using hj⟩
  | 1,h => 
   simp only[nw]at h; cases h
   refine⟨JF,_,_,rfl,h2,rfl,λj v hj => ?_⟩
   grind
  | 2,h =>
   simp only[nw]at h; cases h
   refine⟨.str,_,_,rfl,h3,rfl,λj v hj => ?_⟩
   grind
  | 3,h =>
   simp only[nw]at h; cases h
   refine⟨.sl .expr,_,_,rfl,h4,rfl,λj v hj => ?_⟩
   match j,hj with
   | 0,hj =>
    simp only[List.cons_append,List.nil_append,Nat.add_zero,List.getElem?_cons_succ]
    rw[List.getElem?_append_right (by omega),l2]; simpa using hj
  | n+4,h=>simp[nw]at h
 | .int _,_,_,_,_,_,_,h,_ | .bool,_,_,_,_,_,_,h,_ | .str,_,_,_,_,_,_,h,_ | .sl _,_,_,_,_,_,_,h,_ | .nil,_,_,_,_,_,_,h,_=>by simp[nw]at h
theorem WJ{s f:Nat}{x:Option D}{v:Value}{d:Option D}{zq:St}(hi:Inv κ)(hx:∀ y,x=some y->RD κ y v)(h:(zB (nf c s f x) κ.st).leads (d,zq)) :
  qt c.P (do Pure.pure (.value (<- Instr.fieldAt s v f))) κ d zq:=by
 unfold nf at h
 split at h
 ·exact absurd h ze
 ·rename_i o n hf
  split at h
  ·rename_i τ y
   split at h
   ·rename_i d' o' n' YC
    cases hb:Nat.beq o o'&&Nat.beq n n' with
    | false=>rw[hb]at h; exact absurd h ze
    | true =>
     rw[hb,cond_true,jj]at h
     obtain⟨rfl,rfl⟩:=h
     simp only[Bool.and_eq_true]at hb
     have e1:o=o':=Nat.eq_of_beq_eq_true hb.1
     subst e1
     cases hx _ rfl with
     | qN _ _ cs blk off w7 hr hc =>
      obtain⟨σ,z,c2,rfl,g1,g2,g3⟩:=VG τ y f YC hr
      exact qt.pure hi (na hf κ.w) (.qN σ z c2 blk (off+o) w7 g1 λj u hj=>by grind)
   ·exact absurd h ze
  ·rename_i b off
   obtain⟨rfl,rfl⟩:=h
   cases hx _ rfl with
   | ptr _ _ blk n d hd hp=>exact qt.pure hi (na hf κ.w) (.ptr b (off+o) blk n d hd hp)
  ·rename_i b qw e idx off
   obtain⟨rfl,rfl⟩:=h
   cases hx _ rfl with
   | vU _ _ _ _ _ blk p hold hp =>
    refine qt.pure hi (na hf κ.w) (.vU b qw e idx (off+o) blk (p+o) hold λxs h1 h2 => ?_)
    grind
  ·exact absurd h ze
theorem Dn{s f:Nat}{x:Option D}{v:Value}{d:Option D}{zq:St}(hi:Inv κ)(hx:∀ y,x=some y->RD κ y v)(h:(zB (KQ c s f x) κ.st).leads (d,zq)) :
  qt c.P (do Pure.pure (.value (<- Instr.field s v f))) κ d zq:=by
 unfold KQ at h
 split at h
 ·rename_i fs hu
  split at h
  ·rename_i fd hf
   split at h
   ·rename_i y
    obtain⟨r,hr,rfl,rfl⟩:=Ve h
    cases NR:y.bI with
    | false=>grind
    | true =>
    rw[NR,cond_true]at hr
    have hy:=hx _ rfl
    have ⟨vs,hv,hvs⟩:∃ vs,v=.agg vs/\qA κ (qe y) vs.toList:=by
     have hfd:=uN hy (by cases y<;>simp[D.bI,D.uj]at NR ⊢)
     cases hy<;>simp[D.bI]at NR
     ·rename_i τ z cs hc
      exact⟨cs.toArray,by simp[pk,NR],by simpa[pk,NR,Value.cells]using hfd⟩
     ·rename_i l vs hl ho hh
      exact⟨vs.toArray,rfl,by simpa[Value.cells]using hfd⟩
    subst hv
    rcases FW hr hvs (uL hy)with⟨n,ha,hn,hle,hrd⟩ | ⟨u,ha,hu',hrd⟩
    ·refine qt.pure hi ?_ hrd
     simp only[Instr.field,Sem.run_bind,run_underlying hu,Result.andThen_ok,hf,asAgg,Sem.run_pure,part,oO ha,if_true,run_sizeOf hn]
     congr 2
     grind
    ·refine qt.pure hi ?_ hrd
     have:vs[fd.offset]? = some u:=by simpa using hu'
     simp[Instr.field,run_underlying hu,hf,asAgg,part,oO ha,this]
   ·exact absurd h ze
  ·exact absurd h ze
 ·exact absurd h ze
theorem vV{t e:Nat}(h:ep c t=some e):c.P.underlying t=some (.slice e):=by
 unfold ep at h
 grind
theorem vK{x:Option D}{k:IntKind}{n:Int}{v:Value}(h:asInt x=some (k,n))(hx:∀ y,x=some y->RD κ y v):v=.int k n:=by
 unfold asInt at h
 split at h
 ·cases h; exact(hx _ rfl).kT
 ·cases h
theorem nd{x:Option D}{s:zf}{v:Value}(h:Wp x=some s)(hx:∀ y,x=some y->RD κ y v):v=.string ⟨s.toArray⟩:=by
 unfold Wp at h
 split at h
 ·cases h; exact(hx _ rfl).wj
 ·cases h
theorem ox{x:Option D}{b:Bool}{v:Value}(h:asBool x=some b)(hx:∀ y,x=some y->RD κ y v):v=.bool b:=by
 unfold asBool at h
 split at h
 ·cases h; exact(hx _ rfl).jq
 ·cases h
theorem X7{α:Type}{l:List α}{i:Nat}(h:i<l.length)(d:α):List.getD l i d=l[i]:=by grind
theorem mU{a:Ty}(x:den a):(wv x:Option (den a))=some x:=by simp[wv]
theorem GZ{w:World}{ok:Nat->Prop}:∀ (τ:Ty) (e:Ty) (n:Nat) (x:den τ) (cs:List Value) (i:Nat),Ga τ=some (e,n)->Rc w ok τ x cs->i<n ->
  ∃ c,Rc w ok e (nJ e τ x i) c/\∀ j v,c[j]? = some v->cs[i*e.size+j]? = some v
 | .cons a b,e,n,x,cs,i,ht,hr,hi=>by
  obtain⟨c1,c2,rfl,h1,h2⟩:=hr.cons_inv
  have key:∀ m,(b=.nil/\m=0\/Ga b=some (a,m))->i<m+1->∃ c,Rc w ok a (nJ a (.cons a b) x i) c/\∀ j v,c[j]? = some v->(c1++c2)[i*a.size+j]? = some v:=by
   intro m hm hi
   cases i with
   | zero =>
    refine⟨c1,by simp only[nJ,mU]; exact h1,λj v hj => ?_⟩
    grind
   | succ i =>
    rcases hm with⟨rfl,rfl⟩ | hm
    ·omega
    ·obtain⟨c,g1,g2⟩:=GZ b a m x.2 c2 i hm h2 (by omega)
     refine⟨c,g1,λj v hj => ?_⟩
     have hl:=h1.len
     grind
  unfold Ga at ht
  split at ht
  ·cases ht; exact key 0 (.inl ⟨rfl,rfl⟩) (by omega)
  ·grind
 | .int _,_,_,_,_,_,ht,_,_=>by cases ht
 | .bool,_,_,_,_,_,ht,_,_=>by cases ht
 | .str,_,_,_,_,_,ht,_,_=>by cases ht
 | .sl _,_,_,_,_,_,ht,_,_=>by cases ht
 | .nil,_,_,_,_,_,ht,_,_=>by cases ht
 | .expr,_,_,_,_,_,ht,_,_=>by cases ht
theorem Lt{t n e:Nat}(h:z4w c t=some (n,e)):c.P.underlying t=some (.array n e):=by
 unfold z4w at h
 grind
theorem Ua{t:Nat}{x i:Option D}{k:IntKind}{n:Int}{v u:Value}{d:Option D}{zq:St}(hi:Inv κ)(hx:∀ y,x=some y->RD κ y v)(hy:∀ y,i=some y->RD κ y u)(QF:asInt i=some (k,n))
  (h:(zB (VM c t x n) κ.st).leads (d,zq)):qt c.P (do Pure.pure (.value (<- Instr.indexAt t v u))) κ d zq:=by
 have hu':=vK QF hy
 subst hu'
 unfold VM at h
 split at h
 ·rename_i m et τ y ha
  have hu:=Lt ha
  split at h
  ·rename_i e m' F2
   cases ht:jK c et e&&Nat.beq m m' with
   | false=>rw[ht]at h; exact absurd h ze
   | true =>
    rw[ht,cond_true,va]at h
    simp only[Bool.and_eq_true]at ht
    have:=Nat.eq_of_beq_eq_true ht.2
    subst this
    obtain⟨⟨h0,h1⟩,rfl,rfl⟩:=h
    obtain⟨hs,_⟩:=wZ ht.1
    cases hx _ rfl with
    | qN _ _ cs blk off w7 Bh hc =>
     obtain⟨cc,g1,g2⟩:=GZ τ e m y cs n.toNat F2 Bh (by omega)
     refine qt.pure hi ?_ (.qN e _ cc blk (off+n.toNat*e.size) w7 g1 λj v hj=>by grind)
     simp[Instr.indexAt,asIntOf,run_underlying hu,h0,h1,run_sizeOf hs,vc,Instr.sureAddr]
  ·exact absurd h ze
 ·exact absurd h ze
theorem W4{t:Nat}{x i:Option D}{v u:Value}{d:Option D}{zq:St}(hi:Inv κ)(hx:∀ y,x=some y->RD κ y v)(hy:∀ y,i=some y->RD κ y u)
  (h:(zB (mA c t x i) κ.st).leads (d,zq)):qt c.P (do Pure.pure (.value (<- Instr.indexAt t v u))) κ d zq:=by
 unfold mA at h
 split at h
 ·rename_i k n het QF
  exact Ua hi hx hy QF h
 ·rename_i et k n het QF
  have hu:=vV het
  have hu':=vK QF hy
  subst hu'
  split at h
  ·rename_i e l
   cases ht:jK c et e with
   | false=>rw[ht]at h; exact absurd h ze
   | true =>
    rw[ht,cond_true,va]at h
    obtain⟨⟨h0,h1⟩,rfl,rfl⟩:=h
    obtain⟨hs,_⟩:=wZ ht
    have qs:n.toNat<List.length l:=by omega
    rcases((hx _ rfl).wU rfl).Zi with⟨rfl,_⟩ | ⟨blk,off,cap,f,he,w7,wM,hh,hc⟩
    ·cases qs
    ·cases he
     rw[X7 qs]
     refine qt.pure hi ?_ (.qN e _ (f n.toNat) blk (off+n.toNat*e.size) w7 (hh _ qs) λj v hj=>hc _ qs j v hj)
     simp[Instr.indexAt,asIntOf,run_underlying hu,h0,h1,run_sizeOf hs,vc]
  ·rename_i e l ne
   cases ht:jK c et e with
   | false=>rw[ht]at h; exact absurd h ze
   | true =>
    rw[ht,cond_true,va]at h
    obtain⟨⟨h0,h1⟩,rfl,rfl⟩:=h
    obtain⟨hs,_⟩:=wZ ht
    have qs:n.toNat<List.length l:=by omega
    cases hx _ rfl with
    | xd=>cases qs
    | tight _ _ _ blk off f vy w7 hh hc =>
     rw[X7 qs]
     refine qt.pure hi ?_ (.qN e _ (f n.toNat) blk (off+n.toNat*e.size) w7 (hh _ qs) λj v hj=>hc _ qs j v hj)
     simp[Instr.indexAt,asIntOf,run_underlying hu,h0,h1,run_sizeOf hs,vc]
  ·rename_i b qw e off len
   cases ht:jK c et e with
   | false=>rw[ht]at h; exact absurd h ze
   | true =>
    rw[ht,cond_true,va]at h
    obtain⟨⟨h0,h1⟩,rfl,rfl⟩:=h
    obtain⟨hs,_⟩:=wZ ht
    cases hx _ rfl with
    | ms _ _ _ _ _ cap a hold wM ha mW hm =>
     cases a with
     | none=>grind
     | some p =>
      have hp:=mW p rfl
      obtain⟨blk,o,sp⟩:=p
      subst hp
      refine qt.pure hi (v:=.pointer (some ⟨blk,o+n.toNat*e.size,none⟩)) ?_ (.vU b qw e (off+n.toNat) 0 blk _ hold λxs hb qs => ?_)
      ·simp[Instr.indexAt,asIntOf,run_underlying hu,h0,h1,run_sizeOf hs,vc]
      ·obtain⟨hle,⟨_,_,hv,_⟩ | ⟨fS,n',o',Cw,h3,h4,h5,h6,h7⟩⟩:=hm xs hb
       ·cases hv
       ·grind
  ·exact absurd h ze
 ·exact absurd h ze
theorem Lc(s:zf){i:Nat}(h:i<s.length):(⟨s.toArray⟩:ByteArray)[i]? = some s[i]:=by
 have uo:(⟨s.toArray⟩:ByteArray).size=s.length:=rfl
 rw[getElem?_pos _ _ (by grind)]
 rfl
theorem CN{t:Nat}{x i:Option D}{v u:Value}{d:Option D}{zq:St}(hi:Inv κ)(hx:∀ y,x=some y->RD κ y v)(hy:∀ y,i=some y->RD κ y u)
  (h:(zB (Ko c t x i) κ.st).leads (d,zq)):qt c.P (do Pure.pure (.value (<- Instr.index t v u))) κ d zq:=by
 unfold Ko at h
 split at h
 ·rename_i k n s QF hs hu
  have hu':=vK QF hy
  subst hu'
  have hv:=nd hs hx
  subst hv
  obtain⟨⟨h0,h1⟩,rfl,rfl⟩:=h
  have qs:n.toNat<s.length:=by omega
  rw[X7 qs]
  exact qt.pure hi (by simp[Instr.index,asIntOf,run_underlying hu,h0,Lc s qs]) RD.int
 ·exact absurd h ze
def QD(κ:KS):Option (Option D)->Option Value->Prop
 | none,none=>True
 | some x,some v=>∀ y,x=some y->RD κ y v
 | _,_=>False
theorem XE{d n:Int}{x:Option (Option D)}{v:Option Value}(h:IS d x=some n)(hx:QD κ x v):(x=none/\v=none/\n=d)\/(x.isSome/\∃ k,v=some (.int k n)):=by
 cases x with
 | none=>cases v with
  | none=>exact .inl ⟨rfl,rfl,by simpa[IS]using h.symm⟩
  | some v=>exact hx.elim
 | some x=>cases v with
  | none=>exact hx.elim
  | some v =>
   simp only[IS]at h
   split at h
   ·rename_i k i hk; cases h; exact .inr ⟨rfl,k,by rw[vK hk hx]⟩
   ·cases h
end
end Go.AM
namespace Go.AM
set_option linter.unusedSectionVars false
variable [vz]
section
variable {c:Ctx} {κ:KS}
theorem jB{P:Program}{isS:Bool}{len cap:Nat}{lo hi mx:Option Value}{l h:Int}{m:Nat}
  (hl:(lo=none/\l=0)\/∃ k,lo=some (.int k l)) (hh:(hi=none/\mx=none/\h=len)\/∃ k,hi=some (.int k h))
  (hm:(mx=none/\m=cap)\/∃ k,mx=some (.int k m)) (h0:0<=l) (h1:l<=h) (h2:h<=m) (h3:m<=cap) (w:World) :
  (Instr.sliceBounds isS len cap lo hi mx).run P w=.ok (l.toNat,h.toNat,m) w:=by
 have hh0:(0:Int)<=h:=by omega
 have QS:l<=(h.toNat:Int):=by omega
 rcases hl with⟨rfl,rfl⟩ | ⟨k1,rfl⟩<;>rcases hm with⟨rfl,rfl⟩ | ⟨k3,rfl⟩<;>rcases hh with⟨rfl,hx,rfl⟩ | ⟨k2,rfl⟩ <;>
  first
   | (cases hx; done)
   | (simp[Instr.sliceBounds,run_sliceBound, *]; done)
   | (simp[Instr.sliceBounds,run_sliceBound, *]; rw[run_sliceBound _ _ _ _ _ h0 QS]; rfl)
theorem GU(s:zf)(l h:Int):(⟨s.toArray⟩:ByteArray).extract l.toNat h.toNat=⟨(wX l h s).toArray⟩:=by
 apply ByteArray.ext
 simp[wX,List.drop_take]
theorem XH{n:Int}{x:Option (Option D)}{v:Option Value}(h:IS 0 x=some n)(hx:QD κ x v):(v=none/\n=0)\/∃ k,v=some (.int k n):=by
 rcases XE h hx with⟨_,h1,h2⟩ | ⟨_,h1⟩
 ·grind
 ·grind
theorem KC{d n:Int}{x:Option (Option D)}{v:Option Value}(h:IS d x=some n)(hx:QD κ x v):(v=none/\n=d)\/∃ k,v=some (.int k n):=by
 rcases XE h hx with⟨_,h1,h2⟩ | ⟨_,h1⟩
 ·grind
 ·grind
theorem te{v:Option Value}(h:QD κ none v):v=none:=by cases v with | none=>rfl | some _=>exact h.elim
theorem om{e:Ty}{l:List (den e)}{lo hi:Int}(h0:0<=lo)(h1:lo<=hi)(h2:hi<=(l.length:Int)) :
  (wY lo hi l).length=hi.toNat-lo.toNat/\∀ i (VT:i<(wY lo hi l).length),∃ h:lo.toNat+i<l.length,(wY lo hi l)[i]=l[lo.toNat+i]:=by
 have hlen:(wY lo hi l).length=hi.toNat-lo.toNat:=by simp[wY]; omega
 refine⟨hlen,λi VT=>⟨by omega,?_⟩⟩
 simp[wY]
theorem BH{e:Ty}{l:List (den e)}{lo hi:Int}{blk off cap m:Nat}{f:Nat->List Value}(w7:κ.ok blk)
  (hh:∀ i (hi:i<l.length),Rc κ.w κ.ok e l[i] (f i)) (hc:∀ i,i<l.length->∀ j v,(f i)[j]? = some v->κ.w.cell? ⟨blk,off+i*e.size+j,none⟩=some v)
  (h0:0<=lo) (h1:lo<=hi) (h2:hi<=(l.length:Int)) (hm:hi<=(m:Int)) (wM:m<=cap) :
  (∀ i (VT:i<(wY lo hi l).length),Rc κ.w κ.ok e (wY lo hi l)[i] (f (lo.toNat+i))) /\
  (∀ i,i<(wY lo hi l).length->∀ j v,(f (lo.toNat+i))[j]? = some v ->
   κ.w.cell? ⟨blk,(if m=lo.toNat then off else off+lo.toNat*e.size)+i*e.size+j,none⟩=some v)/\(wY lo hi l).length<=m-lo.toNat:=by
 obtain⟨hl,hg⟩:=om h0 h1 h2
 refine⟨λi VT => ?_,λi VT j v hj => ?_,by omega⟩
 ·obtain⟨h3,h4⟩:=hg i VT
  rw[h4]; exact hh _ h3
 ·obtain⟨h3,h4⟩:=hg i VT
  have:=hc _ h3 j v hj
  rw[if_neg (by omega)]
  rw[Nat.add_mul,<- Nat.add_assoc]at this
  exact this
theorem BT{t:Nat}{x:Option D}{lo hi mx:Option (Option D)}{v:Value}{vl vh vm:Option Value}{d:Option D}{zq:St}(hI:Inv κ)(hx:∀ y,x=some y->RD κ y v)
  (hlo:QD κ lo vl) (hhi:QD κ hi vh) (hmx:QD κ mx vm)
  (h:(zB (KZ c t x lo hi mx) κ.st).leads (d,zq)):qt c.P (do Pure.pure (.value (<- Instr.sliceAt t v vl vh vm))) κ d zq:=by
 unfold KZ at h
 split at h
 ·rename_i s
  obtain⟨s,rfl⟩:∃ s':zf,s=s':=⟨s,rfl⟩
  split at h
  ·rename_i l hh hu hl hh'
   rw[va]at h
   obtain⟨⟨h0,h1,h2⟩,rfl,rfl⟩:=h
   have hv:=(hx _ rfl).wj
   subst hv
   have e1:=te hmx
   subst e1
   refine qt.pure hI ?_ RD.str
   have uo:(⟨s.toArray⟩:ByteArray).size=s.length:=rfl
   have hb:=jB (P:=c.P) (isS:=false) (len:=s.length) (cap:=s.length) (mx:=none) (m:=s.length) (XH hl hlo)
    (da (KC hh' hhi) (λh=>⟨h.1,rfl,h.2⟩) id) (.inl ⟨rfl,rfl⟩) h0 h1 h2 (Nat.le_refl _) κ.w
   simp only[Instr.sliceAt,Sem.run_bind,run_underlying hu,Result.andThen_ok,Instr.slice,Option.isSome_none,Bool.false_eq_true,if_false,uo,hb,GU]
   rfl
  ·exact absurd h ze
 ·rename_i e s
  split at h
  ·rename_i et l hh het hl hh'
   have hu:=vV het
   cases ht:jK c et e with
   | false=>rw[ht]at h; exact absurd h ze
   | true =>
    obtain⟨hs,_⟩:=wZ ht
    rw[ht,cond_true]at h
    split at h
    ·rw[va]at h
     obtain⟨⟨h0,h1,h2⟩,rfl,rfl⟩:=h
     have e1:=te hmx
     subst e1
     have VQ:=XH hl hlo
     have Ue:(vh=none/\(none:Option Value)=none/\hh=(s.length:Int))\/∃ k,vh=some (.int k hh):=da (KC hh' hhi) (λh=>⟨h.1,rfl,h.2⟩) id
     rcases((hx _ rfl).wU rfl).Zi with⟨rfl,a0,he⟩ | ⟨blk,off,cap,f,he,w7,wM,Iw,O8⟩
     ·cases he
      simp only[List.length_nil,Int.cast_ofNat_Int]at h2
      have hb:=jB (P:=c.P) (isS:=true) (len:=0) (cap:=0) (mx:=none) (m:=0) VQ Ue (.inl ⟨rfl,rfl⟩) h0 h1 h2 (Nat.le_refl _) κ.w
      have e0:l=0:=by omega
      have e2:hh=0:=by omega
      subst e0 e2
      refine qt.pure hI (v:=.slice a0 0 0) ?_ (.ik rfl (.eK e a0))
      simp[Instr.sliceAt,run_underlying hu,Instr.slice,hb,run_sizeOf hs]
     ·cases he
      obtain⟨k1,k2,k3⟩:=BH (lo:=l) (hi:=hh) (cap:=cap) (m:=cap) w7 Iw O8 h0 h1 h2 (by omega) (Nat.le_refl _)
      have hb:=jB (P:=c.P) (isS:=true) (len:=s.length) (cap:=cap) (mx:=none) (m:=cap) VQ Ue (.inl ⟨rfl,rfl⟩) h0 h1 (by omega) (Nat.le_refl _) κ.w
      have hlen:=(om h0 h1 h2).1
      refine qt.pure hI ?_ (.ik rfl (.sl e (wY l hh s) blk _ (cap-l.toNat) _ w7 k3 k1 k2))
      simp only[Instr.sliceAt,Sem.run_bind,run_underlying hu,Result.andThen_ok,Instr.slice,hb,run_sizeOf hs,Sem.run_pure,hlen]
      congr 3
      split<;>simp[vc]
    ·split at h
     ·rename_i mx m km mi hm'
      cases hhs:hi.isSome with
      | false=>rw[hhs]at h; exact absurd h ze
      | true =>
      rw[hhs,cond_true,va]at h
      obtain⟨⟨h0,h1,rfl,h2⟩,rfl,rfl⟩:=h
      obtain⟨vm,rfl⟩:∃ u,vm=some u:=by cases vm with | none=>exact hmx.elim | some u=>exact⟨u,rfl⟩
      have hvm:=vK hm' hmx
      subst hvm
      have VQ:=XH hl hlo
      have Ue:(vh=none/\(some (Value.int km hh):Option Value)=none/\hh=(s.length:Int))\/∃ k,vh=some (.int k hh):=by
       rcases XE hh' hhi with⟨g1,_⟩ | ⟨_,g⟩
       ·rw[g1]at hhs; cases hhs
       ·exact .inr g
      have em:((hh.toNat:Nat):Int)=hh:=by omega
      rcases((hx _ rfl).wU rfl).Zi with⟨rfl,a0,he⟩ | ⟨blk,off,cap,f,he,w7,wM,Iw,O8⟩
      ·cases he
       simp only[List.length_nil,Int.cast_ofNat_Int]at h2
       have hb:=jB (P:=c.P) (isS:=true) (len:=0) (cap:=0) (mx:=some (.int km hh)) (m:=hh.toNat) VQ Ue (.inr ⟨km,by rw[em]⟩) h0 h1 (by omega) (by omega) κ.w
       have e0:l=0:=by omega
       have e2:hh=0:=by omega
       subst e0 e2
       refine qt.pure hI (v:=.slice a0 0 0) ?_ (.xd e a0)
       simp[Instr.sliceAt,run_underlying hu,Instr.slice,hb,run_sizeOf hs]
      ·cases he
       obtain⟨k1,k2,k3⟩:=BH (lo:=l) (hi:=hh) (cap:=cap) (m:=hh.toNat) w7 Iw O8 h0 h1 h2 (by omega) (by omega)
       have hb:=jB (P:=c.P) (isS:=true) (len:=s.length) (cap:=cap) (mx:=some (.int km hh)) (m:=hh.toNat) VQ Ue (.inr ⟨km,by rw[em]⟩) h0 h1 (by omega) (by omega) κ.w
       have hlen:=(om h0 h1 h2).1
       refine qt.pure hI ?_ (.tight e (wY l hh s) false blk _ _ nofun w7 k1 k2)
       simp only[Instr.sliceAt,Sem.run_bind,run_underlying hu,Result.andThen_ok,Instr.slice,hb,run_sizeOf hs,Sem.run_pure,hlen]
       congr 3
       split<;>simp[vc]
     ·exact absurd h ze
  ·exact absurd h ze
 ·rename_i e s ne
  split at h
  ·rename_i et l hh het hl hh'
   have hu:=vV het
   cases ht:jK c et e with
   | false=>rw[ht]at h; exact absurd h ze
   | true =>
    obtain⟨hs,_⟩:=wZ ht
    rw[ht,cond_true,va]at h
    obtain⟨⟨h0,h1,h2⟩,rfl,rfl⟩:=h
    have e1:=te hmx
    subst e1
    have VQ:=XH hl hlo
    have Ue:(vh=none/\(none:Option Value)=none/\hh=(s.length:Int))\/∃ k,vh=some (.int k hh):=da (KC hh' hhi) (λh=>⟨h.1,rfl,h.2⟩) id
    cases hx _ rfl with
    | xd _ a0 =>
     simp only[List.length_nil,Int.cast_ofNat_Int]at h2
     have hb:=jB (P:=c.P) (isS:=true) (len:=0) (cap:=0) (mx:=none) (m:=0) VQ Ue (.inl ⟨rfl,rfl⟩) h0 h1 h2 (Nat.le_refl _) κ.w
     have e0:l=0:=by omega
     have e2:hh=0:=by omega
     subst e0 e2
     refine qt.pure hI (v:=.slice a0 0 0) ?_ (.ik rfl (.eK e a0))
     simp[Instr.sliceAt,run_underlying hu,Instr.slice,hb,run_sizeOf hs]
    | tight _ _ _ blk off f vy w7 Iw O8 =>
     obtain⟨k1,k2,k3⟩:=BH (lo:=l) (hi:=hh) (cap:=s.length) (m:=s.length) w7 Iw O8 h0 h1 h2 (by omega) (Nat.le_refl _)
     have hb:=jB (P:=c.P) (isS:=true) (len:=s.length) (cap:=s.length) (mx:=none) (m:=s.length) VQ Ue (.inl ⟨rfl,rfl⟩) h0 h1 (by omega) (Nat.le_refl _) κ.w
     have hlen:=(om h0 h1 h2).1
     refine qt.pure hI ?_ (.ik rfl (.sl e (wY l hh s) blk _ (s.length-l.toNat) _ w7 k3 k1 k2))
     simp only[Instr.sliceAt,Sem.run_bind,run_underlying hu,Result.andThen_ok,Instr.slice,hb,run_sizeOf hs,Sem.run_pure,hlen]
     congr 3
     split<;>simp[vc]
  ·exact absurd h ze
 ·rename_i b qw e off len
  split at h
  ·rename_i et l hh het hl hh'
   have hu:=vV het
   cases ht:jK c et e with
   | false=>rw[ht]at h; exact absurd h ze
   | true =>
    obtain⟨hs,_⟩:=wZ ht
    rw[ht,cond_true,va]at h
    obtain⟨⟨h0,h1,h2⟩,rfl,rfl⟩:=h
    have e1:=te hmx
    subst e1
    have VQ:=XH hl hlo
    have Ue:(vh=none/\(none:Option Value)=none/\hh=(len:Int))\/∃ k,vh=some (.int k hh):=da (KC hh' hhi) (λh=>⟨h.1,rfl,h.2⟩) id
    cases hx _ rfl with
    | ms _ _ _ _ _ cap a hold wM ha mW hm =>
     have hb:=jB (P:=c.P) (isS:=true) (len:=len) (cap:=cap) (mx:=none) (m:=cap) VQ Ue (.inl ⟨rfl,rfl⟩) h0 h1 (by omega) (Nat.le_refl _) κ.w
     refine qt.pure hI (v:=.slice (if cap=l.toNat then a else a.map (·.add (l.toNat*e.size))) (hh.toNat-l.toNat) (cap-l.toNat)) ?_ (.ms b qw e _ _ _ _ hold (by omega) ?_ ?_ ?_)
     ·simp only[Instr.sliceAt,Sem.run_bind,run_underlying hu,Result.andThen_ok,Instr.slice,hb,run_sizeOf hs,Sem.run_pure]
     ·intro hn
      split at hn
      ·have:=ha hn; omega
      ·cases a with | none=>have:=ha rfl; omega | some p=>cases hn
     ·intro p hp
      split at hp
      ·exact mW p hp
      ·cases a with
       | none=>cases hp
       | some q =>
        obtain⟨q1,q2,q3⟩:=q
        have:=mW _ rfl
        simp only at this
        subst this
        simp only[Option.map_some,vc,Option.some.injEq]at hp
        subst hp; rfl
     ·intro xs Xo
      obtain⟨hle,⟨rfl,rfl,hv,hp⟩ | ⟨fS,n',o',Cw,h3,h4,h5,h6,h7⟩⟩:=hm xs Xo
      ·cases hv
       have e0:l=0:=by omega
       have e2:hh=0:=by omega
       subst e0 e2
       exact⟨by simp,.inl ⟨rfl,rfl,rfl,hp⟩⟩
      ·cases h4
       refine⟨by omega,.inr ?_⟩
       by_cases Xl:cap=l.toNat
       ·refine⟨fS,n',o',0,h3,?_,by omega,?_,.inl rfl⟩
        ·simp[Xl]
        ·have:(off+l.toNat+0)=off+cap:=by omega
         rw[this]; exact h6
       ·refine⟨fS,n',o'+l.toNat*e.size,cap-l.toNat,h3,?_,by omega,?_,.inr ?_⟩
        ·simp[Xl,vc]
        ·have:off+l.toNat+(cap-l.toNat)=off+cap:=by omega
         rw[this]; exact h6
        ·rcases h7 with h7 | h7
         ·omega
         ·rw[h7,Nat.add_mul]
  ·exact absurd h ze
 ·exact absurd h ze
end
end Go.AM
namespace Go.AM
set_option linter.unusedSectionVars false
variable [vz]
section
variable {c:Ctx} {κ:KS}
theorem nC(op:BinOp)(t:Nat)(x y:Operand)(k k':IntKind)(a b:Int)(P:Program)(w:World):(eqGuard op t x y (.int k a) (.int k' b)).run P w=.ok () w:=by
 unfold eqGuard; split<;>simp
theorem Hi(op:BinOp)(t:Nat)(x y:Operand)(a b:ByteArray)(P:Program)(w:World):(eqGuard op t x y (.string a) (.string b)).run P w=.ok () w:=by
 unfold eqGuard; split<;>simp
theorem KX(op:BinOp)(t:Nat)(x y:Operand)(a b:Bool)(P:Program)(w:World):(eqGuard op t x y (.bool a) (.bool b)).run P w=.ok () w:=by
 unfold eqGuard; split<;>simp
theorem ff{k:IntKind}{n:Int}{st zq:St}{d:Option D}:(zB (ib k n) st).leads (d,zq)↔d=some (.zD (.int k) n)/\zq=st:=jj
theorem mZ{b:Bool}{st zq:St}{d:Option D}:(zB (bb b) st).leads (d,zq)↔d=some (.zD .bool b)/\zq=st:=jj
theorem D1{op:BinOp}{k:IntKind}{a b:Int}{d:Option D}{st zq:St}{t:Nat}(h:(zB (CA op k a b) st).leads (d,zq))(hs:Xa op=false) :
  ∃ y v,d=some y/\zq=st/\(binOp op t (.int k a) (.int k b)).run c.P κ.w=.ok v κ.w/\RD κ y v:=by
 cases op<;>simp only[CA]at h<;>try (exact absurd h ze)
 all_goals first
  | (rw[ff]at h; obtain⟨rfl,rfl⟩:=h; exact⟨_,_,rfl,rfl,by simp[binOp,Op.intArith,Op.intBits,nM],RD.int⟩)
  | (rw[mZ]at h; obtain⟨rfl,rfl⟩:=h; exact⟨_,_,rfl,rfl,by simp[binOp,Op.intCmp],RD.bool⟩)
  | (rw[va]at h; obtain⟨hb,rfl,rfl⟩:=h; exact⟨_,_,rfl,rfl,by simp[binOp,Op.intDiv,hb],RD.int⟩)
theorem Vd(s:zf):(⟨s.toArray⟩:ByteArray).toList=s:=by simp
theorem BU{op:BinOp}{a b:zf}{d:Option D}{st zq:St}{t:Nat}(h:(zB (Cf op a b) st).leads (d,zq))(hs:Xa op=false) :
  ∃ y v,d=some y/\zq=st/\(binOp op t (.string ⟨a.toArray⟩) (.string ⟨b.toArray⟩)).run c.P κ.w=.ok v κ.w/\RD κ y v:=by
 have uo:∀ s:zf,(⟨s.toArray⟩:ByteArray).size=s.length:=λ_=>rfl
 cases op<;>simp only[Cf]at h<;>try (exact absurd h ze)
 case add =>
  rw[va]at h; obtain⟨hb,rfl,rfl⟩:=h
  refine⟨_,_,rfl,rfl,?_,RD.str⟩
  have e:(⟨a.toArray⟩++⟨b.toArray⟩:ByteArray)=⟨(cat a b).toArray⟩:=by
   rfl
  have hn:¬ (IntKind.i64.max<((a.length+b.length:Nat):Int)):=by
   have:IntKind.i64.max=9223372036854775807:=by decide
   omega
  simp only[binOp,Op.stringOp,uo,hn]
  rfl
 all_goals (rw[mZ]at h; obtain⟨rfl,rfl⟩:=h; exact⟨_,_,rfl,rfl,by simp[binOp,Op.stringOp,zr,strLt],RD.bool⟩)
theorem CJ{P:Program}{t:Nat}(hu:P.underlying t=some .bool)(a b:Bool)(w:World):(Op.equal t (.bool a) (.bool b)).run P w=.ok (a==b) w:=by
 show(Op.equalIn (9999+1) t _ _).run P w=_
 rw[Op.equalIn]
 simp[run_underlying hu]
theorem CL{a:Ty}{t:Nat}(h:TP c a t=true):(∃ k,a=.int k/\c.P.underlying t=some (.int k))\/(a=.bool/\c.P.underlying t=some .bool)\/(a=.str/\c.P.underlying t=some .string):=by
 unfold TP at h
 grind
theorem D4{P:Program}{t:Nat}{u:TypeDesc}(h:P.underlying t=some u)(hn:(match u with | .struct _ | .array _ _=>true | _=>false)=false)(w:World):(isAgg t).run P w=.ok false w:=by
 simp only[isAgg,Sem.run_bind,run_underlying h]
 cases u<;>first | rfl | cases hn
theorem gT{P:Program}{t:Nat}{u:TypeDesc}(h:P.underlying t=some u)(hn:(match u with | .struct _ | .array _ _=>true | _=>false)=false)(pre:List Value)(v:Value)(cs:List Value)(w:World) :
  (part t (pre++v::cs).toArray pre.length).run P w=.ok v w:=by
 simp only[part,Sem.run_bind,D4 h hn]
 simp
theorem tP{w:World}{ok:Nat->Prop}(dp:Nat):∀ (τ:Ty) (a b:den τ) (off:Nat) (fs:List Field) (pre Va cs hM:List Value),sC c τ off fs=true->Rc w ok τ a cs->Rc w ok τ b hM->pre.length=off->Va.length=off ->
  (Op.eqFields (dp+1) (pre++cs).toArray (Va++hM).toArray fs).run c.P w=.ok (S3 τ a b) w
 | .nil,_,_,_,fs,pre,Va,cs,hM,h,_,_,_,_=>by
  cases fs with
  | nil=>rfl
  | cons f fs=>cases h
 | .cons a r,x,y,off,fs,pre,Va,cs,hM,h,hx,hy,hp,hp'=>by
  cases fs with
  | nil=>cases h
  | cons f fs =>
   have h:(decide (f.name ≠ "_")&&(Nat.beq f.offset off&&(TP c a f.type&&sC c r (off+1) fs)))=true:=h
   simp only[Bool.and_eq_true,decide_eq_true_eq]at h
   obtain⟨h1,h2,h3,h4⟩:=h
   have h2:=Nat.eq_of_beq_eq_true h2
   obtain⟨c1,c2,rfl,g1,g2⟩:=hx.cons_inv
   obtain⟨e1,e2,rfl,k1,k2⟩:=hy.cons_inv
   have ih:=λv v'=>tP dp r x.2 y.2 (off+1) fs (pre++[v]) (Va++[v']) c2 e2 h4 g2 k2 (by simp[hp]) (by simp[hp'])
   have fin:∀ (v v':Value) (q:Bool),c1=[v]->e1=[v']->(part f.type (pre++v::c2).toArray f.offset).run c.P w=.ok v w->(part f.type (Va++v'::e2).toArray f.offset).run c.P w=.ok v' w->(Op.equalIn (dp+1) f.type v v').run c.P w=.ok q w->S3 a x.1 y.1=q ->
     (Op.eqFields (dp+1) (pre++(c1++c2)).toArray (Va++(e1++e2)).toArray (f::fs)).run c.P w=.ok (S3 (.cons a r) x y) w:=by
    rintro v v' q rfl rfl p1 p2 p3 p4
    show(Op.eqFields (dp+1) (pre++v::c2).toArray (Va++v'::e2).toArray (f::fs)).run c.P w=.ok (S3 a x.1 y.1&&S3 r x.2 y.2) w
    rw[Op.eqFields,if_pos h1]
    simp only[Sem.run_bind,p1,p2,p3,Result.andThen_ok]
    rw[p4]
    cases q with
    | false=>rfl
    | true =>
     grind
   subst hp
   rcases CL h3 with⟨k,rfl,hu⟩ | ⟨rfl,hu⟩ | ⟨rfl,hu⟩
   ·exact fin _ _ _ g1.kT k1.kT (by rw[h2]; exact gT hu rfl pre _ c2 w) (by rw[h2,<- hp']; exact gT hu rfl Va _ e2 w) (run_equalIn_int w dp _ k k _ _ hu) rfl
   ·exact fin _ _ _ g1.jq k1.jq (by rw[h2]; exact gT hu rfl pre _ c2 w) (by rw[h2,<- hp']; exact gT hu rfl Va _ e2 w) (run_equalIn_bool' w dp _ _ _ hu) rfl
   ·refine fin _ _ _ g1.wj k1.wj (by rw[h2]; exact gT hu rfl pre _ c2 w) (by rw[h2,<- hp']; exact gT hu rfl Va _ e2 w) (run_equalIn_string w dp _ _ _ hu) ?_
    rw[Vd,Vd]
    rfl
 | .int _,_,_,_,_,_,_,_,_,h,_,_,_,_=>by simp[sC]at h
 | .bool,_,_,_,_,_,_,_,_,h,_,_,_,_=>by simp[sC]at h
 | .str,_,_,_,_,_,_,_,_,h,_,_,_,_=>by simp[sC]at h
 | .sl _,_,_,_,_,_,_,_,_,h,_,_,_,_=>by simp[sC]at h
 | .expr,_,_,_,_,_,_,_,_,h,_,_,_,_=>by simp[sC]at h
theorem CV{op:BinOp}{t:Nat}{px py:Operand}{x y:Option D}{v u:Value}{d:Option D}{zq:St}(hI:Inv κ)(hx:∀ z,x=some z->RD κ z v)(hy:∀ z,y=some z->RD κ z u)
  (h:(zB (Ow c op t x y) κ.st).leads (d,zq)):qt c.P (do Pure.pure (.value (<- (do eqGuard op t px py v u; binOp op t v u)))) κ d zq:=by
 unfold Ow at h
 split at h
 ·rename_i τ a σ b
  split at h
  ·rename_i b' hb
   unfold wv at hb
   split at hb
   ·rename_i e
    subst e
    injection hb with hb
    subst hb
    cases hg:σ.isAgg&&Vc c σ t with
    | false=>rw[hg]at h; exact absurd h ze
    | true =>
     rw[hg,cond_true]at h
     rw[Bool.and_eq_true]at hg
     obtain⟨NR,hso⟩:=hg
     unfold Vc at hso
     split at hso
     ·rename_i fs hu
      simp at hso
      obtain⟨f1,f2,f3⟩:=hso
      have hfo:c.P.fieldsOf t=fs:=by unfold Program.fieldsOf; rw[hu]
      cases hx _ rfl with
      | zD _ _ cs g1 =>
      cases hy _ rfl with
      | zD _ _ hM g2 =>
       have e1:pk σ cs=.agg cs.toArray:=by unfold pk; rw[if_pos NR]
       have e2:pk σ hM=.agg hM.toArray:=by unfold pk; rw[if_pos NR]
       have hr:=tP (c:=c) 9998 σ a b 0 fs.toList [] [] cs hM f1 g1 g2 rfl rfl
       have hq:(Op.equalIn 10000 t (.agg cs.toArray) (.agg hM.toArray)).run c.P κ.w=.ok (S3 σ a b) κ.w:=by
        rw[show(10000:Nat)=9999+1 from rfl,run_equalIn_agg κ.w 9999 t _ _ (by grind) f2,hfo]
        exact hr
       rw[e1,e2]
       cases op<;>try (exact absurd h ze)
       ·rw[mZ]at h; obtain⟨rfl,rfl⟩:=h
        refine qt.pure hI ?_ RD.bool
        simp only[Sem.run_bind,run_eqGuard_agg κ.w _ t px py _ _ f3,Result.andThen_ok,run_eql_struct,hq]
       ·rw[mZ]at h; obtain⟨rfl,rfl⟩:=h
        refine qt.pure hI ?_ RD.bool
        simp only[Sem.run_bind,run_eqGuard_agg κ.w _ t px py _ _ f3,Result.andThen_ok,run_neq_struct,hq]
     ·cases hso
   ·cases hb
  ·exact absurd h ze
 ·exact absurd h ze
theorem Oy{op:BinOp}{t:Nat}{px py:Operand}{x y:Option D}{v u:Value}{d:Option D}{zq:St}(hI:Inv κ)(hx:∀ z,x=some z->RD κ z v)(hy:∀ z,y=some z->RD κ z u)
  (h:(zB (BE c op t x y) κ.st).leads (d,zq)):qt c.P (do Pure.pure (.value (<- (do eqGuard op t px py v u; binOp op t v u)))) κ d zq:=by
 unfold BE at h
 split at h
 ·rename_i k a k' b hk Kt
  have:=vK hk hx
  subst this
  have:=vK Kt hy
  subst this
  split at h
  ·rw[va]at h
   obtain⟨hb,rfl,rfl⟩:=h
   refine qt.pure hI ?_ RD.int
   simp only[Sem.run_bind,nC,Result.andThen_ok,binOp,Op.shift,if_neg (show ¬ b<0 by omega)]
   rfl
  ·rw[va]at h
   obtain⟨hb,rfl,rfl⟩:=h
   refine qt.pure hI ?_ RD.int
   simp only[Sem.run_bind,nC,Result.andThen_ok,binOp,Op.shift,if_neg (show ¬ b<0 by omega)]
   rfl
  ·rename_i n1 n2
   cases he:decide (k=k')with
   | false=>rw[he]at h; exact absurd h ze
   | true =>
    have My:=of_decide_eq_true he
    subst My
    rw[he,cond_true]at h
    obtain⟨y',v',rfl,rfl,h1,h2⟩:=D1 (c:=c) (κ:=κ) (t:=t) h (by cases op<;>first | rfl | (exact absurd rfl n1) | (exact absurd rfl n2))
    exact qt.pure hI (by simp only[Sem.run_bind,nC,Result.andThen_ok,h1]) h2
 ·split at h
  ·rename_i a b ha hb
   have:=nd ha hx
   subst this
   have:=nd hb hy
   subst this
   cases hs:Xa op with
   | true=>rw[hs]at h; exact absurd h ze
   | false =>
    rw[hs,cond_false]at h
    obtain⟨y',v',rfl,rfl,h1,h2⟩:=BU (c:=c) (κ:=κ) (t:=t) h hs
    exact qt.pure hI (by simp only[Sem.run_bind,Hi,Result.andThen_ok,h1]) h2
  ·split at h
   ·rename_i a b hu ha hb
    have:=ox ha hx
    subst this
    have:=ox hb hy
    subst this
    cases op<;>simp only[OQ]at h<;>try (exact absurd h ze)
    all_goals
     rw[mZ]at h; obtain⟨rfl,rfl⟩:=h
     refine qt.pure hI ?_ RD.bool
     simp only[Sem.run_bind,KX,Result.andThen_ok,binOp,CJ hu,Sem.run_pure]
   ·exact CV hI hx hy h
theorem Sc{op:UnOp}{x:Option D}{v:Value}{d:Option D}{zq:St}(hI:Inv κ)(hx:∀ z,x=some z->RD κ z v)
  (h:(zB (PG op x) κ.st).leads (d,zq)):qt c.P (do Pure.pure (.value (<- Op.unary op v))) κ d zq:=by
 unfold PG at h
 split at h
 ·split at h
  ·rename_i k n hk
   have:=vK hk hx
   subst this
   obtain⟨rfl,rfl⟩:=h
   exact qt.pure hI (by rfl) RD.int
  ·exact absurd h ze
 ·split at h
  ·rename_i b hb
   have:=ox hb hx
   subst this
   obtain⟨rfl,rfl⟩:=h
   exact qt.pure hI (by rfl) RD.bool
  ·exact absurd h ze
 ·split at h
  ·rename_i k n hk
   have:=vK hk hx
   subst this
   obtain⟨rfl,rfl⟩:=h
   exact qt.pure hI (by rfl) RD.int
  ·exact absurd h ze
 ·exact absurd h ze
theorem TN{t ty:Nat}{ts:Array Nat}{x:Option D}{v:Value}{vs:Array Value}{d:Option D}{zq:St}(hI:Inv κ)(hx:∀ z,x=some z->RD κ z v)(ht:ts[0]? = some t)(hv:vs[0]? = some v)
  (h:(zB (Rw c t x) κ.st).leads (d,zq)):qt c.P (do Pure.pure (.value (<- Builtin.len_ ts ty vs))) κ d zq:=by
 unfold Rw at h
 split at h
 ·rename_i e hu
  have key:∀ (n:Nat) (a:Option Addr) (cap:Nat),v=.slice a n cap->d=some (.zD (.int .i64) (n:Int))->zq=κ.st->qt c.P (do Pure.pure (.value (<- Builtin.len_ ts ty vs))) κ d zq:=by
   rintro n a cap rfl rfl rfl
   exact qt.pure hI (by simp[Builtin.len_,ht,hv,run_underlying hu,goInt]) RD.int
  split at h
  ·rename_i e' l
   rw[ff]at h
   rcases((hx _ rfl).wU rfl).Zi with⟨rfl,a0,he⟩ | ⟨blk,off,cap,f,he,_⟩
   ·grind
   ·grind
  ·rename_i e' l ne
   rw[ff]at h
   cases hx _ rfl with
   | xd _ a0=>grind
   | tight=>grind
  ·rw[ff]at h
   cases hx _ rfl
   grind
  ·rw[ff]at h
   cases hx _ rfl
   grind
  ·exact absurd h ze
 ·rename_i hu
  split at h
  ·rename_i s hs
   have:=nd hs hx
   subst this
   obtain⟨rfl,rfl⟩:=h
   have uo:(⟨s.toArray⟩:ByteArray).size=s.length:=rfl
   exact qt.pure hI (by simp only[Builtin.len_,ht,hv,Sem.run_bind,run_underlying hu,Result.andThen_ok,goInt,uo,Sem.run_pure]) RD.int
  ·exact absurd h ze
 ·exact absurd h ze
theorem Bx{f:Int->Int->Int}{g:Value->Value->Sem Value}{P:Program}(hg:∀ k k' a b,(g (.int k a) (.int k' b)).run P κ.w=.ok (.int k (f a b)) κ.w){x y:Option D}{v u:Value}{d:Option D}{zq:St}
  (hI:Inv κ) (hx:∀ z,x=some z->RD κ z v) (hy:∀ z,y=some z->RD κ z u) (h:(zB (Vz f [x,y]) κ.st).leads (d,zq)) :
  ∃ r,(g v u).run P κ.w=.ok r κ.w/\zq=κ.st/\∀ d',d=some d'->RD κ d' r:=by
 unfold Vz at h
 simp only at h
 split at h
 ·rename_i k a k' b hk Kt
  have:=vK hk hx
  subst this
  have:=vK Kt hy
  subst this
  cases he:decide (k=k')with
  | false=>rw[he]at h; exact absurd h ze
  | true =>
   rw[he,cond_true,ff]at h
   obtain⟨rfl,rfl⟩:=h
   exact⟨_,hg k k' a b,rfl,λd' he=>by cases he; exact RD.int⟩
 ·exact absurd h ze
theorem KN{x:Option D}{i:Nat}{v:Value}{d:Option D}{zq:St}(hI:Inv κ)(hx:∀ z,x=some z->RD κ z v)
  (h:(zB (ZR x i) κ.st).leads (d,zq)):qt c.P (do Pure.pure (.value (<- Instr.extract v i))) κ d zq:=by
 unfold ZR at h
 split at h
 ·rename_i vs
  obtain⟨y,hy,rfl,rfl⟩:=Ve h
  cases hx _ rfl with
  | kY _ us hl hh =>
   obtain⟨u,h1,h2⟩:=qA.get (⟨hl,hh⟩:qA κ vs us) hy
   exact qt.pure hI (by simp[Instr.extract,h1]) h2
 ·exact absurd h ze
theorem cr:∀ {l:List (Option D)} {ds:List D},u6 l=some ds->l=ds.map some
 | [],ds,h=>by simp[u6]at h; subst h; rfl
 | some d::r,ds,h=>by
  simp only[u6]at h
  split at h
  ·rename_i l hl; cases h; simp[cr hl]
  ·cases h
 | none::r,ds,h=>by simp[u6]at h
theorem yi{l:List (Option D)}{ds:List D}{vs:List Value}(h:u6 l=some ds)(hl:l.length=vs.length)
  (hr:∀ (i:Nat) (d:D) (v:Value),l[i]? = some (some d)->vs[i]? = some v->RD κ d v):qA κ ds vs:=by
 have:=cr h
 subst this
 refine⟨by grind,λi h1 h2=>hr i _ _ ?_ (List.getElem?_eq_getElem h2)⟩
 simp
end
end Go.AM
namespace Go.AM
namespace T
variable {α β γ:Type}
theorem gO{t:T α}{x y:α}(h:t.leads x)(k:t.leads y):x=y:=by
 induction t with
 | ret a=>exact h.symm.trans k
 | ite b p q ip iq =>
  rcases h with⟨h1,h⟩ | ⟨h1,h⟩<;>rcases k with⟨k1,k⟩ | ⟨k1,k⟩
  ·grind
  ·grind
  ·grind
  ·grind
 | zA p t ih=>exact ih h.2 k.2
 | fail=>exact h.elim
theorem zd{t:T α}{f:α->T β}{x:β}:(t.bind f).leads x↔∃ a,t.leads a/\(f a).leads x:=by
 induction t with
 | ret a=>exact⟨λh=>⟨a,rfl,h⟩,λ⟨b,h,k⟩=>by cases h; exact k⟩
 | ite b p q ip iq =>
  constructor
  ·rintro(⟨h1,h⟩ | ⟨h1,h⟩)
   ·obtain⟨a,k1,k2⟩:=ip.1 h; exact⟨a,.inl ⟨h1,k1⟩,k2⟩
   ·obtain⟨a,k1,k2⟩:=iq.1 h; exact⟨a,.inr ⟨h1,k1⟩,k2⟩
  ·rintro⟨a,⟨h1,k1⟩ | ⟨h1,k1⟩,k2⟩
   ·exact .inl ⟨h1,ip.2 ⟨a,k1,k2⟩⟩
   ·exact .inr ⟨h1,iq.2 ⟨a,k1,k2⟩⟩
 | zA p t ih =>
  constructor
  ·rintro⟨h1,h⟩; obtain⟨a,k1,k2⟩:=ih.1 h; exact⟨a,⟨h1,k1⟩,k2⟩
  ·rintro⟨a,⟨h1,k1⟩,k2⟩; exact⟨h1,ih.2 ⟨a,k1,k2⟩⟩
 | fail=>exact⟨λh=>h.elim,λ⟨_,h,_⟩=>h.elim⟩
open Classical in
noncomputable def run:T α->Option α
 | ret a=>some a
 | ite b t e=>bif b then t.run else e.run
 | zA p t=>if p then t.run else none
 | fail=>none
@[simp] theorem z7(a:α):(ret a).run=some a:=rfl
@[simp] theorem z88:(fail:T α).run=none:=rfl
theorem run_ite(b:Bool)(t e:T α):(ite b t e).run=if b=true then t.run else e.run:=by cases b<;>rfl
@[simp] theorem zi(t e:T α):(ite true t e).run=t.run:=rfl
@[simp] theorem zg(t e:T α):(ite false t e).run=e.run:=rfl
theorem zb{p:Prop}(h:p)(t:T α):(zA p t).run=t.run:=by simp only[run,if_pos h]
theorem za{b:Bool}(h:b=true)(t e:T α):(ite b t e).run=t.run:=by rw[h]; rfl
theorem z8{b:Bool}(h:b=false)(t e:T α):(ite b t e).run=e.run:=by rw[h]; rfl
theorem wb{t:T α}{x:α}:t.run=some x↔t.leads x:=by
 induction t with
 | ret a=>simp[leads]
 | ite b p q ip iq=>cases b<;>simp[leads,ip,iq]
 | zA p t ih=>by_cases h:p<;>simp[run,leads,ih]
 | fail=>simp[leads]
theorem run_bind(t:T α)(f:α->T β):(t.bind f).run=t.run.bind λa=>(f a).run:=by
 induction t with
 | ret a=>rfl
 | ite b p q ip iq=>cases b<;>simp[bind,ip,iq]
 | zA p t ih=>by_cases h:p<;>simp[run,bind,h,ih]
 | fail=>rfl
theorem z6{t:T α}{a:α}(h:t.run=some a)(f:α->T β):(t.bind f).run=(f a).run:=by rw[run_bind,h]; rfl
section loop
variable {σ ρ:Type} (r:σ->T (σ⊕ρ))
inductive Iter:Nat->σ->ρ->Prop
 | done {s:σ} {x:ρ} (h:(r s).leads (.inr x)):Iter 0 s x
 | step {n:Nat} {s s':σ} {x:ρ} (h:(r s).leads (.inl s')) (k:Iter n s' x):Iter (n+1) s x
theorem Iter.det{r:σ->T (σ⊕ρ)}{n m:Nat}{s:σ}{x y:ρ}(h:Iter r n s x)(k:Iter r m s y):x=y:=by
 induction h generalizing m y with
 | done h =>
  cases k with
  | done k=>have:=gO h k; cases this; rfl
  | step k _=>have:=gO h k; cases this
 | step h _ ih =>
  cases k with
  | done k=>have:=gO h k; cases this
  | step k k2=>have:=gO h k; cases this; exact ih k2
open Classical in
noncomputable def loop (s:σ):T ρ:=if h:∃ x n,Iter r n s x then .ret h.choose else .fail
theorem cM{s:σ}{x:ρ}:(loop r s).leads x↔∃ n,Iter r n s x:=by
 unfold loop
 split
 ·rename_i h
  obtain⟨n,hn⟩:=h.choose_spec
  constructor
  ·intro hx; cases hx; exact⟨n,hn⟩
  ·rintro⟨m,hm⟩; exact hn.det hm
 ·rename_i h
  exact⟨λk=>k.elim,λ⟨n,hn⟩=>h ⟨x,n,hn⟩⟩
theorem vk{r:σ->T (σ⊕ρ)}(I:σ->Prop)(μ:σ->Nat)(f:σ->ρ)
  (h:∀ s,I s->(∃ s',(r s).run=some (.inl s')/\I s'/\μ s'<μ s/\f s'=f s)\/(r s).run=some (.inr (f s))) {s:σ} (hs:I s):(loop r s).run=some (f s):=by
 rw[wb,cM]
 generalize hm:μ s=m
 induction m using Nat.strongRecOn generalizing s with
 | _ m ih =>
  rcases h s hs with⟨s',h1,h2,h3,h4⟩ | h1
  ·obtain⟨n,hn⟩:=ih (μ s') (by omega) h2 rfl
   exact⟨n+1,.step (wb.1 h1) (h4▸hn)⟩
  ·exact⟨0,.done (wb.1 h1)⟩
theorem uh{r:σ->T (σ⊕ρ)}{s s':σ}(h:(r s).run=some (.inl s')):(loop r s).run=(loop r s').run:=by
 have h':=wb.1 h
 apply Option.ext
 intro x
 show(loop r s).run=some x↔(loop r s').run=some x
 rw[wb,wb,cM,cM]
 constructor
 ·rintro⟨n,hn⟩
  cases hn with
  | done k=>have:=gO h' k; cases this
  | step k k2=>have:=gO h' k; cases this; exact⟨_,k2⟩
 ·rintro⟨n,hn⟩; exact⟨n+1,.step h' hn⟩
theorem qR{r:σ->T (σ⊕ρ)}{s:σ}{x:ρ}(h:(r s).run=some (.inr x)):(loop r s).run=some x:=by
 rw[wb,cM]; exact⟨0,.done (wb.1 h)⟩
end loop
section fix
variable {σ ρ:Type} (b:(σ->T ρ)->σ->T ρ)
def H4:Nat->σ->T ρ
 | 0,_=>.fail
 | n+1,x=>b (H4 n) x
open Classical in
noncomputable def fix (x:σ):T ρ:=if h:∃ y n,∀ m,n<=m->(H4 b m x).leads y then .ret h.choose else .fail
theorem fx{x:σ}{y:ρ}:(fix b x).leads y↔∃ n,∀ m,n<=m->(H4 b m x).leads y:=by
 unfold fix
 split
 ·rename_i h
  obtain⟨n,hn⟩:=h.choose_spec
  constructor
  ·intro hx; cases hx; exact⟨n,hn⟩
  ·rintro⟨k,hk⟩; exact gO (hn (max n k) (by omega)) (hk (max n k) (by omega))
 ·rename_i h
  exact⟨λk=>k.elim,λ⟨n,hn⟩=>h ⟨y,n,hn⟩⟩
theorem iY{b:(σ->T ρ)->σ->T ρ}(I:σ->Prop)(μ:σ->Nat)(f:σ->ρ)
  (h:∀ x,I x->∀ g:σ->T ρ,(∀ y,I y->μ y<μ x->(g y).run=some (f y))->(b g x).run=some (f x)) {x:σ} (hx:I x):(fix b x).run=some (f x):=by
 rw[wb,fx]
 refine⟨μ x+1,λm hm => ?_⟩
 induction m generalizing x with
 | zero=>omega
 | succ m ih =>
  rw[<- wb]
  refine h x hx (H4 b m) λy hy qs => ?_
  rw[wb]
  exact ih hy (by omega)
end fix
def td:T α->Option Prop
 | ret _=>none
 | ite b t e=>match t.td,e.td with
  | none,none=>none
  | some p,none=>some (b=true->p)
  | none,some q=>some (b=false->q)
  | some p,some q=>some ((b=true->p)/\(b=false->q))
 | zA p t=>match t.td with
  | none=>some p
  | some q=>some (p/\q)
 | fail=>some False
def val(d:α):T α->α
 | ret a=>a
 | ite b t e=>bif b then t.val d else e.val d
 | zA _ t=>t.val d
 | fail=>d
def flat(d:α)(t:T α):T α:=match t.td with
 | none=>.ret (t.val d)
 | some p=>.zA p (.ret (t.val d))
def QT(t:T α):Prop:=match t.td with | none=>True | some p=>p
theorem Vs(d:α)(t:T α)(x:α):t.leads x↔t.QT/\t.val d=x:=by
 induction t with
 | ret a=>simp[leads,QT,td,val]
 | ite b p q ip iq =>
  cases b
  ·simp only[leads,val,iq]
   unfold QT
   simp only[td]
   grind
  ·simp only[leads,val,ip]
   unfold QT
   simp only[td]
   grind
 | zA p t ih =>
  simp only[leads,ih,val]
  unfold QT
  simp only[td]
  grind
 | fail=>simp[leads,QT,td]
end T
abbrev zF(x:Int):Int:=IntKind.wrap .i64 x
abbrev zK(x:Int):Int:=IntKind.wrap .u64 x
abbrev xL(x:Int):Int:=IntKind.wrap .u32 x
abbrev YE(x:Int):Int:=IntKind.wrap .u8 x
def vX(qw off len n:Nat):Prop:=qw=n/\off=0/\len=n
def qu(i:Int)(n:Nat):Prop:=0<=i/\i<(n:Int)
def fU(qw jv idx n:Nat):Prop:=qw=jv/\idx<n
def ZX(qw jv off len n m bytes:Nat):Prop:=qw=jv/\off=0/\len=n/\(n+m)*bytes<=140737488355328
def gj(l h:Int)(n:Nat):Prop:=0<=l/\l<=h/\h<=(n:Int)
def jh(l:zf):Nat->zf
 | 0=>[]
 | c+1=>l++jh l c
def WQ(u:Nat):zf:=if h:u<10 then[UInt8.ofNat (48+u)]else WQ (u / 10)++[UInt8.ofNat (48+u % 10)]
termination_by u
decreasing_by omega
def fj(n:Int):zf:=if n<0 then 45::WQ n.natAbs else WQ n.toNat
def cn:zf->zf->Int
 | [],sub=>if sub.isEmpty then 0 else -1
 | b::l,sub=>if sub.isPrefixOf (b::l)then 0 else if cn l sub == -1 then -1 else cn l sub+1
def mc:zf->UInt8->Int
 | [],_ => -1
 | b::l,c=>if b==c then 0 else if mc l c == -1 then -1 else mc l c+1
def ua(s sep:zf):zf×zf×Bool:=if 0<=cn s sep then(s.take (cn s sep).toNat,s.drop ((cn s sep).toNat+sep.length),true)else(s,[],false)
def oH(s p:zf):zf:=if List.isPrefixOf p s=true then s.drop p.length else s
def bM(s:zf):den (cj .bool 256):=IT (e:=.bool) (λj=>s.contains (UInt8.ofNat j)) 256 0
def z1N(v v' o l n:Nat):Prop:=v=v'/\o+l<=n
def Zl(n m:Int)(bytes:Nat):Prop:=0<=n/\n<=m/\m*bytes<=140737488355328/\m<=140737488355328
def nth{α:Type}(l:List α)(i:Int)(d:α):α:=List.getD l i.toNat d
def jF{α:Type}(l:List α)(i:Nat)(d:α):α:=List.getD l i d
def qm(s:zf)(i:Int):Int:=((List.getD s i.toNat 0).toNat:Int)
def fa(k:IntKind)(x y:Int):Int:=nM k (· &&& ·) x y
def si(k:IntKind)(x y:Int):Int:=nM k (· ||| ·) x y
def Cj(k:IntKind)(x y:Int):Int:=nM k (· ^^^ ·) x y
theorem de{l h:Int}{n:Nat}:gj l h n↔0<=l/\l<=h/\h<=(n:Int):=by rfl
def z15(l:List Int):T (zf×Unit):=.zA ((∀ n∈l,(0:Int)<=n/\n<256)/\List.length l<=140737488355328) (.ret (qD l,()))
end Go.AM
namespace Go.AM
def MT(b:UInt8):List zf->List zf
 | []=>[[b]]
 | x::y=>(b::x)::y
def bQ(c:UInt8):zf->List zf
 | []=>[[]]
 | b::r=>if b=c then[]::bQ c r else MT b (bQ c r)
def gL(c:UInt8):zf->zf->List zf
 | cur,[]=>if cur=[]then[]else[cur]
 | cur,b::r=>if b=c then(if cur=[]then gL c [] r else cur::gL c [] r)else gL c (cur++[b]) r
def yZ:zf->zf->Int
 | [],_ => -1
 | b::l,chars=>if chars.contains b then 0 else if yZ l chars == -1 then -1 else yZ l chars+1
abbrev oI{A R:Type}(i:Int)(l:List A)(t:T R):T R:=.zA (qu i l.length) t
abbrev oE{A R:Type}(l:List A)(t:T R):T R:=.zA (l.length=l.length) t
abbrev oC{A R:Type}(l:List A)(t:T R):T R:=.zA (vX l.length 0 l.length l.length) t
abbrev oM{R:Type}(a b:Nat)(t:T R):T R:=.zA (vX a 0 a b) (.zA (a=b) t)
abbrev oA{A R:Type}(l:List A)(k:Nat)(t:T R):T R:=.zA (ZX l.length l.length 0 l.length l.length 1 k) t
abbrev oK{R:Type}(a b:zf)(t:T R):T R:=.zA (a.length+b.length<=4611686018427387904) t
abbrev oZ{R:Type}(t:T R):T R:=.zA (vX 0 0 0 0) (.zA ((0:Nat)=0) t)
abbrev oV{A B C D E F R:Type}(a:List A)(b:List B)(c:List C)(d:List D)(e:List E)(f:List F)(t:T R):T R:=oC a (oC b (oC c (oC d (oC e (oC f t)))))
abbrev oW{A B C D E F R:Type}(a:List A)(b:List B)(c:List C)(d:List D)(e:List E)(f:List F)(t:T R):T R:=oE a (oE b (oE c (oE d (oE e (oE f t)))))
abbrev oY{A B C D E F R:Type}(a:List A)(b:List B)(c:List C)(d:List D)(e:List E)(f:List F)(t:T R):T R:=oV a b c d e f (oW a b c d e f t)
end Go.AM
namespace Go.AM
namespace T
variable {α β:Type}
attribute [simp] run_bind
@[simp] theorem ku(b:Bool)(t e:T α):(ite b t e).run=if b=true then t.run else e.run:=run_ite b t e
@[simp] theorem qo{i:Int}{n:Nat}(t:T α)(h1:0<=i)(h2:i<(n:Int)):(zA (qu i n) t).run=t.run:=zb ⟨h1,h2⟩ t
@[simp] theorem js{v v' i n:Nat}(t:T α)(h1:v=v')(h2:i<n):(zA (fU v v' i n) t).run=t.run:=zb ⟨h1,h2⟩ t
@[simp] theorem lF{v v' o l n m b:Nat}(t:T α)(h1:v=v')(h2:o=0)(h3:l=n)(h4:(n+m)*b<=140737488355328):(zA (ZX v v' o l n m b) t).run=t.run:=zb ⟨h1,h2,h3,h4⟩ t
@[simp] theorem zH{v o l n:Nat}(t:T α)(h1:v=n)(h2:o=0)(h3:l=n):(zA (vX v o l n) t).run=t.run:=zb ⟨h1,h2,h3⟩ t
@[simp] theorem cF{l h:Int}{n:Nat}(t:T α)(h1:0<=l)(h2:l<=h)(h3:h<=(n:Int)):(zA (gj l h n) t).run=t.run:=zb ⟨h1,h2,h3⟩ t
@[simp] theorem run_mk{n m:Int}{b:Nat}(t:T α)(h1:0<=n)(h2:n<=m)(h3:m*b<=140737488355328)(h4:m<=140737488355328):(zA (Zl n m b) t).run=t.run:=zb ⟨h1,h2,h3,h4⟩ t
@[simp] theorem Sq{v v' o l n:Nat}(t:T α)(h1:v=v')(h2:o+l<=n):(zA (z1N v v' o l n) t).run=t.run:=zb ⟨h1,h2⟩ t
@[simp] theorem wT{a b:Nat}(t:T α)(h:a=b):(zA (a=b) t).run=t.run:=zb h t
@[simp] theorem zo{a b:Nat}(t:T α)(h:a<=b):(zA (a<=b) t).run=t.run:=zb h t
@[simp] theorem uu{a b:Int}(t:T α)(h:a<=b):(zA (a<=b) t).run=t.run:=zb h t
@[simp] theorem wS{a b:Int}(t:T α)(h:a≠b):(zA (a≠b) t).run=t.run:=zb h t
@[simp] theorem zbg{A:Type}{i:Int}{l:List A}(t:T α)(h1:0<=i)(h2:i<(l.length:Int)):(oI i l t).run=t.run:=zb ⟨h1,h2⟩ t
@[simp] theorem zbB{A:Type}(l:List A)(t:T α):(oE l t).run=t.run:=zb rfl t
@[simp] theorem zdI{A:Type}(l:List A)(t:T α):(oC l t).run=t.run:=zb ⟨rfl,rfl,rfl⟩ t
@[simp] theorem zcG{a b:Nat}(t:T α)(h:a=b):(oM a b t).run=t.run:=(zb ⟨h,rfl,h⟩ _).trans (zb h t)
@[simp] theorem zaJ{A:Type}{l:List A}{k:Nat}(t:T α)(h:(l.length+1)*k<=140737488355328):(oA l k t).run=t.run:=zb ⟨rfl,rfl,rfl,h⟩ t
@[simp] theorem zcS{a b:zf}(t:T α)(h:a.length+b.length<=4611686018427387904):(oK a b t).run=t.run:=zb h t
@[simp] theorem zn(t:T α):(zA True t).run=t.run:=zb trivial t
end T
@[simp] theorem zu{x:Int}(h1 : -9223372036854775808<=x)(h2:x<=9223372036854775807):zF x=x:=IntWalk.i64_in x ⟨h1,h2⟩
@[simp] theorem Yw{x:Int}(h1:0<=x)(h2:x<=255):YE x=x:=IntWalk.u8_in x ⟨h1,h2⟩
@[simp] theorem tz{x:Int}(h1:0<=x)(h2:x<=4294967295):xL x=x:=IntWalk.u32_in x ⟨h1,h2⟩
@[simp] theorem qk{x:Int}(h1:0<=x)(h2:x<=18446744073709551615):zK x=x:=IntWalk.u64_in x ⟨h1,h2⟩
theorem dD(x:Int):xL x=x % 4294967296:=IntKind.wrap_u32 x
theorem YZ{α:Type}(l:List α)(d:α){i:Int}(h0:0<=i)(hi:i<(l.length:Int)):l.drop i.toNat=nth l i d::l.drop (i+1).toNat:=by
 unfold nth
 have qs:i.toNat<l.length:=by omega
 have e:(i+1).toNat=i.toNat+1:=by omega
 rw[e,List.drop_eq_getElem_cons qs]
 simp[List.getD_eq_getElem?_getD,qs]
theorem Oe{α:Type}(l:List α){i:Int}(hi:¬ i<(l.length:Int)):l.drop i.toNat=[]:=List.drop_eq_nil_of_le (by omega)
namespace T
variable {σ ρ α β:Type}
theorem Je{r:σ->T (σ⊕ρ)}(l:List α)(d:α)(e:β->Int->σ)(I:β->List α->Prop)(f:List α->β->ρ)
  (step:∀ (b:β) (x:α) (xs:List α) (i:Int),0<=i->i<(l.length:Int)->nth l i d=x->I b (x::xs) ->
   (∃ b',(r (e b i)).run=some (.inl (e b' (i+1)))/\I b' xs/\f xs b'=f (x::xs) b)\/(r (e b i)).run=some (.inr (f (x::xs) b)))
  (done:∀ b,I b []->(r (e b (l.length:Int))).run=some (.inr (f [] b))) {b:β} (hI:I b l):(loop r (e b 0)).run=some (f l b):=by
 have key:∀ (xs:List α) (i:Nat) (b:β),l.drop i=xs->i<=l.length->I b xs->(loop r (e b (i:Int))).run=some (f xs b):=by
  intro xs
  induction xs with
  | nil =>
   intro i b hd hi hb
   have:i=l.length:=by have:=List.drop_eq_nil_iff.1 hd; omega
   subst this
   exact qR (done b hb)
  | cons x xs ih =>
   intro i b hd hi hb
   have qs:i<l.length:=by
    rcases Nat.lt_or_ge i l.length with h | h
    ·exact h
    ·rw[List.drop_eq_nil_of_le h]at hd; cases hd
   have ke:=YZ l d (i:=(i:Int)) (by omega) (by omega)
   have e1:((i:Int)+1).toNat=i+1:=by omega
   simp only[Int.toNat_natCast,e1]at ke
   rw[hd]at ke
   obtain⟨h1,h2⟩:=List.cons.inj ke
   rcases step b x xs i (by omega) (by omega) (by rw[h1]) hb with⟨b',g1,g2,g3⟩ | g1
   ·rw[uh g1,<- g3]
    have:=ih (i+1) b' h2.symm (by omega) g2
    simpa using this
   ·exact qR g1
 exact key l 0 b (by simp) (Nat.zero_le _) hI
end T
end Go.AM