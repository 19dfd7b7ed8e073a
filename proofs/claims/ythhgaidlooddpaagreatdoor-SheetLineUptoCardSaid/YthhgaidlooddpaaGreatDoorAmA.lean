/-
  The abstract machine, part A: texts of our own, the same for each claim.
-/
import Derived.WalkKit
import Derived.Laws.StructEq
set_option linter.unusedVariables false
namespace Go.AM
theorem hJ{a b c d:Prop}(h:a\/b)(f:a->c)(g:b->d):c\/d:=by grind
abbrev zf:=List UInt8
inductive Ty where
 | int (k:IntKind) | bool | str | sl (e:Ty) | nil | cons (a b:Ty) | expr
 deriving DecidableEq
inductive Expr where
 | mk (kind:Int) (num:Bool×List Int×List Int×Unit) (name:zf) (kids:List Expr)
def Expr.kind:Expr->Int | .mk k _ _ _=>k
def Expr.num:Expr->Bool×List Int×List Int×Unit | .mk _ n _ _=>n
def Expr.name:Expr->zf | .mk _ _ n _=>n
def Expr.kids:Expr->List Expr | .mk _ _ _ l=>l
@[reducible] def den:Ty->Type
 | .int _=>Int
 | .bool=>Bool
 | .str=>zf
 | .sl e=>List (den e)
 | .nil=>Unit
 | .cons a b=>den a×den b
 | .expr=>Expr
abbrev u32:Ty:=.int .u32
abbrev i64:Ty:=.int .i64
abbrev X1:Ty:=.cons .bool (.cons (.sl u32) (.cons (.sl u32) .nil))
abbrev pX:Ty:=.cons i64 (.cons X1 (.cons .str (.cons (.sl .expr) .nil)))
def Expr.DK(e:Expr):den pX:=(e.kind,e.num,e.name,e.kids,())
def Expr.Yo(x:den pX):Expr:=.mk x.1 x.2.1 x.2.2.1 x.2.2.2.1
def Ty.size:Ty->Nat
 | .int _ | .bool | .str | .sl _=>1
 | .nil=>0
 | .cons a b=>a.size+b.size
 | .expr=>6
def Ty.isAgg:Ty->Bool
 | .nil | .cons _ _ | .expr=>true
 | _=>false
def zq:(τ:Ty)->den τ
 | .int _=>(0:Int)
 | .bool=>false
 | .str=>([]:zf)
 | .sl e=>([]:List (den e))
 | .nil=>()
 | .cons a b=>(zq a,zq b)
 | .expr=>.mk 0 (false,[],[],()) [] []
inductive D where
 | zx (τ:Ty) (x:den τ)
 | tight (e:Ty) (l:List (den e)) (ne:Bool)
 | qZ | jF | qB | vj | vf
 | ptr (b off:Nat)
 | qA (τ:Ty) (x:den τ)
 | vD (b qh:Nat) (e:Ty) (idx off:Nat)
 | ms (b qh:Nat) (e:Ty) (off len:Nat)
 | qE (f:Nat) (cap:List D)
 | agg (cs:List D)
 | jW (vs:List D)
 | iface (t:Nat) (d:D)
 | lI
 | jr (b T:Nat)
 | yK (T:Nat)
inductive jn where
 | dead
 | var (d:D)
 | arr (qh:Nat) (e:Ty) (xs:List (den e))
abbrev St:=List jn
inductive T(α:Type) where
 | ret (a:α)
 | ite (b:Bool) (t e:T α)
 | zC (p:Prop) (t:T α)
 | fail
namespace T
variable {α β:Type}
def bind:T α->(α->T β)->T β
 | ret a,k=>k a
 | ite b t e,k=>ite b (t.bind k) (e.bind k)
 | zC p t,k=>zC p (t.bind k)
 | fail,_=>fail
def QV:Option α->T α
 | some a=>ret a
 | none=>fail
def leads:T α->α->Prop
 | ret a,x=>a=x
 | ite b t e,x=>(b=true/\t.leads x)\/(b=false/\e.leads x)
 | zC p t,x=>p/\t.leads x
 | fail,_=>False
def wp(Q:α->Prop):T α->Prop
 | ret a=>Q a
 | ite b t e=>(b=true->t.wp Q)/\(b=false->e.wp Q)
 | zC p t=>p/\t.wp Q
 | fail=>False
end T
abbrev Fr:=List (Nat×Option D)
def Fr.get:Fr->Nat->Option D
 | [],_=>none
 | (t,d)::r,s=>bif Nat.beq t s then d else Fr.get r s
def Fr.put(fr:Fr)(dst:Option Nat)(d:Option D):Fr :=
 match dst with
 | some t=>(t,d)::fr
 | none=>fr
abbrev Kn:=List (Nat×Option Bool)
def Kn.get:Kn->Nat->Option Bool
 | [],_=>none
 | (t,b)::r,s=>bif Nat.beq t s then b else Kn.get r s
inductive Wd where
 | ret (ds:List D)
 | jg (d:D)
inductive pn where
 | rp (τ:Ty) | im (τ:Ty)
inductive mX where
 | ty (τ:Ty) | rp (τ:Ty) | qE (f:Nat) (caps:List pn)
structure Sig where
 params:List mX
 res:List Ty
structure Ctx where
 P:Program
 xid:Nat
 sig:Nat->List D->Option Sig
 fn:Nat->List D->St->T (Wd×St)
 ro:Nat->Bool
 /-- Blocks that a call leaves as they are. -/
 free:Nat->List D->St->List Nat
 DF:∀ (g:Nat) (args:List D) (st:St) (rs:Wd) (zl:St) (b:Nat),(fn g args st).leads (rs,zl)->b∈free g args st->zl[b]? = st[b]?
inductive Ex where
 | normal | exit (id:Nat) | ret | jg (d:D)
class lE where
 u8:Nat
def RT[lE](e:Ty)(t:Nat):Bool:=match e with
 | .int .u8=>Nat.beq t lE.u8
 | _=>true
def OF[lE](e:Ty)(t:Nat):Prop:=e=.int .u8->t=lE.u8
section ops
variable (c:Ctx)
variable [lE]
def bN(t:Nat):Option Nat:=(c.P.info? t).map (·.size)
def dQ(t:Nat):Option Nat:=(c.P.info? t).map (·.bytes)
def Jf(t:Nat):Option Bool:=match c.P.underlying t with | some (.struct _) | some (.array _ _)=>some true | some _=>some false | none=>none
def gj:List (Option Ty)->Option Ty
 | []=>some .nil
 | some a::r=>match gj r with | some b=>some (.cons a b) | none=>none
 | none::_=>none
def V8:Nat->Nat->Option Ty
 | 0,_=>none
 | n+1,t=>bif Nat.beq t c.xid then some .expr else
  match c.P.underlying t with
  | some (.int k)=>some (.int k)
  | some .bool=>some .bool
  | some .string=>some .str
  | some (.slice e)=>match V8 n e with | some a=>some (.sl a) | none=>none
  | some (.struct fs)=>gj (fs.toList.map λf=>V8 n f.type)
  | some (.array k e)=>gj (List.replicate k (V8 n e))
  | _=>none
def ja(t:Nat)(τ:Ty):Bool:=RT τ t&&(match bN c t with | some n=>Nat.beq n τ.size | none=>false)&&(match Jf c t with | some b=>b==τ.isAgg | none=>false)
def iv:Value->Option D
 | .int k n=>some (.zx (.int k) n)
 | .bool b=>some (.zx .bool b)
 | .string s=>some (.zx .str s.data.toList)
 | .slice none 0 0=>some .qZ
 | .pointer none=>some .jF
 | .nilFunc=>some .vj
 | .nilIface=>some .qB
 | .map none=>some .vf
 | _=>none
def vJ:List (Option D)->Option (List D)
 | []=>some []
 | some d::r=>match vJ r with | some l=>some (d::l) | none=>none
 | none::_=>none
def ri:Value->Option D
 | .agg cs=>match vJ (cs.toList.map iv)with | some l=>some (.agg l) | none=>none
 | v=>iv v
def flat:(τ:Ty)->den τ->List D
 | .int k,x=>[.zx (.int k) x]
 | .bool,x=>[.zx .bool x]
 | .str,x=>[.zx .str x]
 | .sl e,x=>[.zx (.sl e) x]
 | .nil,_=>[]
 | .cons a b,x=>flat a x.1++flat b x.2
 | .expr,x=>[.zx i64 x.kind,.zx .bool x.num.1,.zx (.sl u32) x.num.2.1,.zx (.sl u32) x.num.2.2.1,.zx .str x.name,.zx (.sl .expr) x.kids]
def zR:D->List D
 | .zx τ x=>flat τ x
 | .agg cs=>cs
 | .jW _=>[]
 | d=>[d]
def D.isAgg:D->Bool
 | .agg _=>true
 | _=>false
def D.yX:D->Bool
 | .zx τ _=>τ.isAgg
 | .agg _=>true
 | _=>false
def D.z2B:D->Bool
 | .zx τ _=>τ.isAgg
 | .agg _=>true
 | _=>false
def kL:List D->Option Nat
 | .yK T::_=>some T
 | .jr _ T::_=>some T
 | _=>none
def D.typed:D->Option Nat
 | .agg l=>kL l
 | _=>none
def dM(d d':D):Bool:=match d'.typed with
 | none=>true
 | some T=>match d.typed with | some T'=>Nat.beq T T' | none=>false
def D.vS:D->Bool
 | .jW _=>true
 | _=>false
def we{a b:Ty}(x:den a):Option (den b):=if h:a=b then some (h▸x)else none
def gA(e:Ty):Nat->Ty
 | 0=>.nil
 | n+1=>.cons e (gA e n)
def Jh:Ty->Option (Ty×Nat)
 | .cons e r=>match r with
  | .nil=>some (e,1)
  | r=>match Jh r with
   | some (e',n)=>bif decide (e=e')then some (e,n+1)else none
   | none=>none
 | _=>none
def fO(e:Ty):(τ:Ty)->den τ->Nat->den e
 | .cons _ _,x,0=>match(we x.1:Option (den e))with | some y=>y | none=>zq e
 | .cons _ b,x,i+1=>fO e b x.2 i
 | _,_,_=>zq e
def BM{e:Ty}(f:Nat->den e):(n:Nat)->Nat->den (gA e n)
 | 0,_=>()
 | n+1,k=>(f k,BM f n (k+1))
def gV(τ:Ty):D->Option (den τ)
 | .zx σ x=>we x
 | .tight e l _=>we (a:=.sl e) l
 | .qZ=>match τ with | .sl e=>some ([]:List (den e)) | _=>none
 | _=>none
def uq:(τ:Ty)->List D->Option (den τ×List D)
 | .int k,d::r=>match gV (.int k) d with | some x=>some (x,r) | none=>none
 | .bool,d::r=>match gV .bool d with | some x=>some (x,r) | none=>none
 | .str,d::r=>match gV .str d with | some x=>some (x,r) | none=>none
 | .sl e,d::r=>match gV (.sl e) d with | some x=>some (x,r) | none=>none
 | .nil,r=>some ((),r)
 | .cons a b,r=>match uq a r with
  | some (x,r')=>match uq b r' with | some (y,r'')=>some ((x,y),r'') | none=>none
  | none=>none
 | .expr,[]=>none
 | .expr,d::r=>match gV i64 d with
  | none=>none
  | some k=>match r with
   | d1::d2::d3::d4::d5::r' =>
    match gV .bool d1,gV (.sl u32) d2,gV (.sl u32) d3,gV .str d4,gV (.sl .expr) d5 with
    | some a,some n,some m,some s,some l=>some (Expr.mk k (a,n,m,()) s l,r')
    | _,_,_,_,_=>none
   | _=>none
 | _,[]=>none
def gX(τ:Ty)(d:D):Option (den τ) :=
 match d with
 | .zx σ x=>we x
 | d=>bif (d.isAgg==τ.isAgg) && !d.vS then match uq τ (zR d)with
   | some (x,[])=>some x
   | _=>none
  else none
def eB(st:St):D->T D
 | .ms b qh e off len=>match st[b]? with
  | some (.arr uO e' xs)=>if h:e'=e then .zC (qh=uO) (.ret (.zx (.sl e) (h▸((xs.take (off+len)).drop off:List (den e')))))else .fail
  | _=>.fail
 | d=>.ret d
def Xc(st:St):List D->T (List D)
 | []=>.ret []
 | d::r=>(eB st d).bind λx=>(Xc st r).bind λl=>.ret (x::l)
def snap(st:St):D->T D
 | .agg cs=>(Xc st cs).bind λl=>.ret (.agg l)
 | d=>eB st d
def nA(st:St)(τ:Ty)(d:D):T (den τ):=(snap st d).bind λx=>.QV (gX τ x)
def Xs:D->Bool | .ms .. => true | _=>false
inductive yv where
 | val (t:T (Option D))
 | rd (k:St->T (Option D))
 | wr (k:St->T (Option D×St))
def val(d:D):yv:=.val (.ret (some d))
def Od(d:Option D):yv:=match d with | some d=>.val (.ret (some d)) | none=>.val .fail
def bad:yv:=.val .fail
def Pm(t:Nat):Bool:=match c.P.underlying t with
 | some (.struct fs)=>match fs[0]? with
  | some fd=>match c.P.underlying fd.type with | some (.pointer e)=>Nat.beq e t | _=>false
  | none=>false
 | _=>false
def FA(t:Nat)(d:D):D:=match d with
 | .agg (.jF::r)=>bif Pm c t then .agg (.yK t::r)else .agg (.jF::r)
 | d=>d
def rF(t:Nat):Option D:=match c.P.info? t with
 | some i=>match i.zero with | some z=>(match ri z with | some d=>some (FA c t d) | none=>none) | none=>none
 | none=>none
def QT(l:List D)(off n:Nat):Option (List D) :=
 bif Nat.ble (off+n) l.length then some ((l.drop off).take n)else none
def Y3(t:Nat)(d:D)(off:Nat):Option D :=
 match Jf c t with
 | some true=>match bN c t with
  | none=>none
  | some n=>bif (Nat.beq off 0)&&Nat.beq n (zR d).length&&d.z2B then some d
   else match QT (zR d) off n with | some l=>some (.agg l) | none=>none
 | some false=>(zR d)[off]?
 | none=>none
def Jg(t:Nat)(d:D)(off:Nat)(x:D):Option D :=
 match bN c t with
 | none=>none
 | some n=>bif Nat.blt 0 n&&Nat.beq n (zR x).length&&Nat.ble (off+n) (zR d).length then
   bif Nat.beq n (zR d).length then some x
   else some (.agg ((zR d).take off++zR x++(zR d).drop (off+n)))
  else none
def Zi(t:Nat)(a:Option D):yv:=match a with
 | some (.qA τ x)=>bif ja c t τ then val (.zx τ x)else bad
 | some (.ptr b off)=>.rd λst=>match st[b]? with
  | some (.var d)=>match Y3 c t d off with | some r=>.ret (some r) | none=>.fail
  | _=>.fail
 | some (.vD b qh e idx off)=>.rd λst=>match st[b]? with
  | some (.arr uO e' xs)=>bif decide (e'=e)then
    .zC (qh=uO/\idx<xs.length) (match Y3 c t (.zx e' (xs.getD idx (zq e'))) off with | some r=>.ret (some r) | none=>.fail)
   else .fail
  | _=>.fail
 | _=>bad
def si(t:Nat)(a:Option D)(v:Option D):yv:=match a,v with
 | some (.ptr b off),some x=>.wr λst=>match st[b]? with
  | some (.var d)=>match Jg c t d off x with | some r=>bif dM d r then .ret (none,st.set b (.var r))else .fail | none=>.fail
  | _=>.fail
 | some (.vD b qh e idx off),some x=>.wr λst=>match st[b]? with
  | some (.arr uO e' xs)=>bif decide (e'=e)then
    .zC (qh=uO/\idx<xs.length) (match Jg c t (.zx e' (xs.getD idx (zq e'))) off x with
     | some r=>match gX e' r with | some y=>.ret (none,st.set b (.arr uO e' (xs.set idx y))) | none=>.fail
     | none=>.fail)
   else .fail
  | _=>.fail
 | _,_=>bad
def iC:(τ:Ty)->den τ->Nat->Option (D×Nat×Nat)
 | .cons a _,x,0=>some (.qA a x.1,0,a.size)
 | .cons a b,x,n+1=>match iC b x.2 n with | some (d,o,s)=>some (d,a.size+o,s) | none=>none
 | .expr,x,0=>some (.qA i64 x.kind,0,1)
 | .expr,x,1=>some (.qA X1 x.num,1,3)
 | .expr,x,2=>some (.qA .str x.name,4,1)
 | .expr,x,3=>some (.qA (.sl .expr) x.kids,5,1)
 | _,_,_=>none
def sA(s f:Nat):Option (Nat×Nat):=match c.P.underlying s with
 | some (.struct fs)=>match fs[f]? with
  | some fd=>match bN c fd.type with | some n=>bif Nat.beq n 0 then none else some (fd.offset,n) | none=>none
  | none=>none
 | _=>none
def fH(s f:Nat)(a:Option D):yv:=match sA c s f with
 | none=>bad
 | some (o,n)=>match a with
  | some (.qA τ x)=>match iC τ x f with
   | some (d,o',n')=>bif Nat.beq o o'&&Nat.beq n n' then val d else bad
   | none=>bad
  | some (.ptr b off)=>val (.ptr b (off+o))
  | some (.vD b qh e idx off)=>val (.vD b qh e idx (off+o))
  | _=>bad
def Vq(s f:Nat)(a:Option D):yv:=match c.P.underlying s with
 | some (.struct fs)=>match fs[f]? with
  | some fd=>match a with
   | some d=>Od (bif d.yX then Y3 c fd.type d fd.offset else none)
   | none=>bad
  | none=>bad
 | _=>bad
def asInt:Option D->Option (IntKind×Int)
 | some (.zx (.int k) n)=>some (k,n)
 | _=>none
def Zw:Option D->Option zf
 | some (.zx .str s)=>some s
 | _=>none
def asBool:Option D->Option Bool
 | some (.zx .bool b)=>some b
 | _=>none
def bO(t:Nat):Option Nat:=match c.P.underlying t with | some (.slice e)=>some e | _=>none
def R1(t:Nat):Option (Nat×Nat):=match c.P.underlying t with | some (.array n e)=>some (n,e) | _=>none
def tr(t:Nat)(x:Option D)(i:Int):yv:=match R1 c t,x with
 | some (n,et),some (.qA τ y)=>match Jh τ with
  | some (e,m)=>bif ja c et e&&Nat.beq n m then .val (.zC (0<=i/\i<(n:Int)) (.ret (some (.qA e (fO e τ y i.toNat)))))else bad
  | none=>bad
 | _,_=>bad
def fA(t:Nat)(x i:Option D):yv:=match bO c t,asInt i with
 | none,some (_,i)=>tr c t x i
 | some et,some (_,i)=>match x with
  | some (.zx (.sl e) l)=>bif ja c et e then .val (.zC (0<=i/\i<(List.length l:Int)) (.ret (some (.qA e (List.getD l i.toNat (zq e))))))else bad
  | some (.tight e l _)=>bif ja c et e then .val (.zC (0<=i/\i<(List.length l:Int)) (.ret (some (.qA e (List.getD l i.toNat (zq e))))))else bad
  | some (.ms b qh e off len)=>bif ja c et e then .val (.zC (0<=i/\i<(len:Int)) (.ret (some (.vD b qh e (off+i.toNat) 0))))else bad
  | _=>bad
 | _,_=>bad
def WU(t:Nat)(x i:Option D):yv:=match asInt i,Zw x,c.P.underlying t with
 | some (_,i),some s,some .string=>.val (.zC (0<=i/\i<(List.length s:Int)) (.ret (some (.zx (.int .u8) ((List.getD s i.toNat 0).toNat:Int)))))
 | _,_,_=>bad
def D8(d:Int):Option (Option D)->Option Int
 | none=>some d
 | some x=>match asInt x with | some (_,i)=>some i | none=>none
def um(l h:Int)(s:zf):zf:=(s.take h.toNat).drop l.toNat
def vQ{e:Ty}(l h:Int)(s:List (den e)):List (den e):=(s.take h.toNat).drop l.toNat
def V0(t:Nat)(x:Option D)(lo hi mx:Option (Option D)):yv:=match x with
 | some (.zx .str s)=>match c.P.underlying t,mx,D8 0 lo,D8 (List.length s) hi with
  | some .string,none,some l,some h=>.val (.zC (0<=l/\l<=h/\h<=(List.length s:Int)) (.ret (some (.zx .str (um l h s)))))
  | _,_,_,_=>bad
 | some (.zx (.sl e) s)=>match bO c t,D8 0 lo,D8 (List.length s) hi with
  | some et,some l,some h=>bif ja c et e then match mx with
    | none=>.val (.zC (0<=l/\l<=h/\h<=(List.length s:Int)) (.ret (some (.zx (.sl e) (vQ l h s)))))
    | some m=>match asInt m with
     | some (_,m)=>bif hi.isSome then .val (.zC (0<=l/\l<=h/\h=m/\h<=(List.length s:Int)) (.ret (some (.tight e (vQ l h s) false))))else bad
     | none=>bad
   else bad
  | _,_,_=>bad
 | some (.tight e s _)=>match bO c t,mx,D8 0 lo,D8 (List.length s) hi with
  | some et,none,some l,some h=>bif ja c et e then .val (.zC (0<=l/\l<=h/\h<=(List.length s:Int)) (.ret (some (.zx (.sl e) (vQ l h s)))))else bad
  | _,_,_,_=>bad
 | some (.ms b qh e off len)=>match bO c t,mx,D8 0 lo,D8 len hi with
  | some et,none,some l,some h=>bif ja c et e then .val (.zC (0<=l/\l<=h/\h<=(len:Int)) (.ret (some (.ms b qh e (off+l.toNat) (h.toNat-l.toNat)))))else bad
  | _,_,_,_=>bad
 | _=>bad
def ib(k:IntKind)(n:Int):yv:=val (.zx (.int k) n)
def bb(b:Bool):yv:=val (.zx .bool b)
def iB(k:IntKind)(f:BitVec k.bits->BitVec k.bits->BitVec k.bits)(x y:Int):Int:=k.wrap (f (BitVec.ofInt k.bits x) (BitVec.ofInt k.bits y)).toNat
def cO(k:IntKind)(a b:Int):Int:=k.wrap (a*2 ^ (min b.toNat k.bits))
def vc(k:IntKind)(a b:Int):Int:=Int.fdiv a (2 ^ (min b.toNat k.bits))
def KL(op:BinOp)(k:IntKind)(a b:Int):yv:=match op with
 | .add=>ib k (k.wrap (a+b))
 | .sub=>ib k (k.wrap (a-b))
 | .mul=>ib k (k.wrap (a*b))
 | .quo=>.val (.zC (b≠0) (.ret (some (.zx (.int k) (k.wrap (a.tdiv b))))))
 | .rem=>.val (.zC (b≠0) (.ret (some (.zx (.int k) (a.tmod b)))))
 | .and=>ib k (iB k (· &&& ·) a b)
 | .or=>ib k (iB k (· ||| ·) a b)
 | .xor=>ib k (iB k (· ^^^ ·) a b)
 | .eql=>bb (a==b)
 | .neq=>bb (a != b)
 | .lss=>bb (decide (a<b))
 | .leq=>bb (decide (a<=b))
 | .gtr=>bb (decide (b<a))
 | .geq=>bb (decide (b<=a))
 | _=>bad
def zk(a b:zf):Bool:=a==b
def strLt(a b:zf):Bool:=Op.bytesLess a b
def cat(a b:zf):zf:=a++b
def Kl(op:BinOp)(a b:zf):yv:=match op with
 | .add=>.val (.zC (a.length+b.length<=4611686018427387904) (.ret (some (.zx .str (cat a b)))))
 | .eql=>bb (zk a b)
 | .neq=>bb (!zk a b)
 | .lss=>bb (strLt a b)
 | .leq=>bb (strLt a b||zk a b)
 | .gtr=>bb (!(strLt a b||zk a b))
 | .geq=>bb (!strLt a b)
 | _=>bad
def FD(op:BinOp)(a b:Bool):yv:=match op with
 | .eql=>bb (a==b)
 | .neq=>bb (!(a==b))
 | _=>bad
def sq:BinOp->Bool
 | .shl | .shr=>true
 | _=>false
def Ng(a:Ty)(t:Nat):Bool:=match a,c.P.underlying t with
 | .int k,some (.int k')=>decide (k=k')
 | .bool,some .bool=>true
 | .str,some .string=>true
 | _,_=>false
def nj:Ty->Nat->List Field->Bool
 | .nil,_,[]=>true
 | .cons a r,off,f::fs=>decide (f.name ≠ "_")&&(Nat.beq f.offset off&&(Ng c a f.type&&nj r (off+1) fs))
 | _,_,_=>false
def Lo:(τ:Ty)->den τ->den τ->Bool
 | .int _,(a:Int),(b:Int)=>a==b
 | .bool,(a:Bool),(b:Bool)=>a==b
 | .str,(a:zf),(b:zf)=>zk a b
 | .cons a r,(x:den a×den r),(y:den a×den r)=>Lo a x.1 y.1&&Lo r x.2 y.2
 | _,_,_=>true
def sV(τ:Ty)(t:Nat):Bool:=match c.P.underlying t with
 | some (.struct fs)=>nj c τ 0 fs.toList&&(!(c.P.stoodInHeld t) && !(c.P.eqGuardType c.P.depth t))
 | _=>false
def DE(op:BinOp)(t:Nat)(x y:Option D):yv:=match x,y with
 | some (.zx τ a),some (.zx σ b)=>match(we b:Option (den τ))with
  | some b=>bif τ.isAgg&&sV c τ t then(match op with
   | .eql=>bb (Lo τ a b)
   | .neq=>bb (!Lo τ a b)
   | _=>bad)else bad
  | none=>bad
 | _,_=>bad
def Kw(op:BinOp)(t:Nat)(x y:Option D):yv:=match asInt x,asInt y with
 | some (k,a),some (k',b)=>match op with
  | .shl=>.val (.zC (0<=b) (.ret (some (.zx (.int k) (cO k a b)))))
  | .shr=>.val (.zC (0<=b) (.ret (some (.zx (.int k) (vc k a b)))))
  | op=>bif decide (k=k')then KL op k a b else bad
 | _,_=>match Zw x,Zw y with
  | some a,some b=>bif sq op then bad else Kl op a b
  | _,_=>match c.P.underlying t,asBool x,asBool y with
   | some .bool,some a,some b=>FD op a b
   | _,_,_=>DE c op t x y
def Vf(op:BinOp)(t:Nat)(x:Option D):yv:=match c.P.underlying t with
 | some (.interface _)=>match op,x with
  | .eql,some .qB=>bb true
  | .eql,some (.iface _ _)=>bb false
  | .neq,some .qB=>bb false
  | .neq,some (.iface _ _)=>bb true
  | _,_=>bad
 | _=>bad
def dG(x:Option D)(at':Nat)(ok:Bool):yv:=match c.P.underlying at' with
 | some (.interface _)=>bad
 | none=>bad
 | some _=>match x with
  | some (.iface t d)=>bif Nat.beq t at'&&ok then val (.jW [d,.zx .bool true])else bad
  | _=>bad
def Yk(op:BinOp)(t:Nat)(p:Operand)(x y:Option D):yv:=match p with
 | .const .nilIface=>Vf c op t x
 | _=>Kw c op t x y
def Iq(op:UnOp)(x:Option D):yv:=match op with
 | .neg=>match asInt x with | some (k,n)=>ib k (k.wrap (0-n)) | none=>bad
 | .not=>match asBool x with | some b=>bb (!b) | none=>bad
 | .xor=>match asInt x with | some (k,n)=>ib k (iB k (· ^^^ ·) (if k.signed then -1 else k.max) n) | none=>bad
 | _=>bad
def byteOf(n:Int):UInt8:=UInt8.ofNat n.toNat
def Jk(e:Ty):D->Option (List (den e))
 | .zx σ y=>we (a:=σ) (b:=.sl e) y
 | .tight e' y _=>we (a:=.sl e') (b:=.sl e) y
 | .qZ=>some []
 | _=>none
def xy(l:List Int):zf:=l.map byteOf
def pA(e:Nat)(x:Option D):yv:=match c.P.underlying e,x with
 | some (.int .u8),some d=>.rd λst=>(eB st d).bind λy=>match Jk (.int .u8) y with
  | some l=>.ret (some (.zx .str (xy l)))
  | none=>.fail
 | _,_=>bad
def convertOp(s t:Nat)(x:Option D):yv:=match c.P.underlying s,c.P.underlying t with
 | some (.slice e),some .string=>pA c e x
 | some (.int _),some (.int k)=>match asInt x with | some (_,n)=>ib k (k.wrap n) | none=>bad
 | some .string,some .string=>match Zw x with | some s=>val (.zx .str s) | none=>bad
 | _,_=>bad
def ID(t:Nat)(x:Option D):yv:=match c.P.underlying t with
 | some (.slice _)=>match x with
  | some (.zx (.sl _) l)=>ib .i64 (List.length l)
  | some (.tight _ l _)=>ib .i64 (List.length l)
  | some .qZ=>ib .i64 0
  | some (.ms _ _ _ _ len)=>ib .i64 (len:Nat)
  | _=>bad
 | some .string=>match Zw x with
  | some s=>ib .i64 (List.length s)
  | none=>bad
 | _=>bad
def ex(e:Ty){e':Ty}(xs:List (den e')):Option (List (den e)):=we (a:=.sl e') (b:=.sl e) xs
def cN(e:Ty)(l ys:List (den e))(bytes:Nat)(st:St):T (Option D×St) :=
 .zC ((l.length+ys.length)*bytes<=140737488355328) (.ret (some (.ms st.length (l.length+ys.length) e 0 (l.length+ys.length)),st++[.arr (l.length+ys.length) e (l++ys)]))
def uR(e:Ty)(s:D)(ys:List (den e))(ne:Bool)(bytes:Nat)(st:St):T (Option D×St):=match s with
 | .qZ=>bif ne then cN e [] ys bytes st else .ite ys.isEmpty (.ret (some s,st)) (cN e [] ys bytes st)
 | .tight e' l _=>match ex e l with
  | some l=>bif ne then cN e l ys bytes st else .ite ys.isEmpty (.ret (some s,st)) (cN e l ys bytes st)
  | none=>.fail
 | .ms b qh e' off len=>match st[b]? with
  | some (.arr uO e'' xs)=>match ex e xs with
   | some xs=>bif decide (e'=e)then .zC (qh=uO/\off=0/\len=xs.length/\(xs.length+ys.length)*bytes<=140737488355328)
     (.ret (some (.ms b (qh+ys.length) e 0 (len+ys.length)),st.set b (.arr (qh+ys.length) e (xs++ys))))else .fail
   | none=>.fail
  | _=>.fail
 | _=>.fail
def zeroOf(et:Nat)(e:Ty):Option (den e):=match rF c et with | some z=>gX e z | none=>none
def oe(t:Nat)(s x:Option D):yv:=match bO c t with
 | none=>bad
 | some et=>match V8 c 20 et,dQ c et with
  | some e,some bytes=>bif ja c et e&&Nat.blt 0 e.size&&Nat.blt 0 bytes&&(zeroOf c et e).isSome then match s,x with
    | some s,some x=>.wr λst=>(eB st x).bind λx=>match x with
     | .zx _ y=>match(we y:Option (den (.sl e)))with
      | some ys=>uR e s ys false bytes st
      | none=>.fail
     | .tight _ y ne=>match ex e y with
      | some ys=>uR e s ys ne bytes st
      | none=>.fail
     | .qZ=>uR e s [] false bytes st
     | _=>.fail
    | _,_=>bad
   else bad
  | _,_=>bad
def bytesOf(s:zf):List Int:=s.map λb=>((b.toNat:Nat):Int)
def iH(t t':Nat)(s x:Option D):yv:=match bO c t with
 | none=>bad
 | some et=>match V8 c 20 et,dQ c et,c.P.underlying t' with
  | some (.int .u8),some bytes,some .string=>bif ja c et (.int .u8)&&Nat.blt 0 bytes&&(zeroOf c et (.int .u8)).isSome then match s,x with
    | some s,some (.zx .str l)=>.wr λst=>uR (.int .u8) s (bytesOf l) false bytes st
    | _,_=>bad
   else bad
  | _,_,_=>bad
def Ky(t:Nat)(n m:Option D):yv:=match bO c t,asInt n,asInt m with
 | some et,some (_,n),some (_,m)=>match V8 c 20 et,dQ c et with
  | some e,some bytes=>match zeroOf c et e with
   | some z=>bif ja c et e&&Nat.blt 0 e.size then
     .wr λst=>.zC (0<=n/\n<=m/\m*bytes<=140737488355328/\m<=140737488355328) (.ret (some (.ms st.length n.toNat e 0 n.toNat),st++[.arr n.toNat e (List.replicate n.toNat z)]))
    else bad
   | none=>bad
  | _,_=>bad
 | _,_,_=>bad
def Xh(e:Ty):Nat->List (Nat×Option D)->Option (List (den e))
 | _,[]=>some []
 | i,(j,some d)::r=>bif Nat.beq i j then match gX e d,Xh e (i+1) r with
   | some x,some l=>some (x::l)
   | _,_=>none
  else none
 | _,_=>none
def dE(t n:Nat)(ps:List (Nat×Option D)):yv:=match bO c t with
 | none=>bad
 | some et=>match V8 c 20 et with
  | some e=>bif ja c et e&&Nat.beq n ps.length&&Nat.ble n 1000&&Nat.ble e.size 100&&(zeroOf c et e).isSome then match Xh e 0 ps with
    | some l=>bif Nat.beq n 0&&Nat.blt 0 e.size then .wr λst=>.ret (some (.ms st.length 0 e 0 0),st++[.arr 0 e []])else val (.tight e l (!Nat.beq n 0))
    | none=>bad
   else bad
  | none=>bad
def bh(places:List (Nat×Nat)):List (Nat×Option D)->List D->Option (List D)
 | [],cells=>some cells
 | (i,some d)::r,cells=>match places[i]? with
  | some (off,n)=>bif !d.vS&&Nat.beq n (zR d).length&&Nat.ble (off+n) cells.length then
     bh places r (cells.take off++zR d++cells.drop (off+n))else none
  | none=>none
 | _,_=>none
def VA(t:Nat)(ps:List (Nat×Option D)):yv:=match c.P.underlying t with
 | some (.struct fs)=>match rF c t,fs.toList.mapM (λf=>(c.P.info? f.type).map λi=>(f.offset,i.size))with
  | some (.agg z),some places=>match bh places ps z with
   | some l=>val (.agg l)
   | none=>bad
  | _,_=>bad
 | some (.array k e)=>match rF c t,c.P.info? e with
  | some (.agg z),some ie=>match bh ((List.range k).map λi=>(i*ie.size,ie.size)) ps z with
   | some l=>val (.agg l)
   | none=>bad
  | _,_=>bad
 | _=>bad
def oD(x:Option D)(i:Nat):yv:=match x with
 | some (.jW vs)=>Od vs[i]?
 | _=>bad
def jG:List D->D
 | [d]=>d
 | ds=>.jW ds
def Ty.scalar:Ty->Bool
 | .int _ | .bool | .str=>true
 | .cons a b=>a.scalar&&b.scalar
 | .nil=>true
 | _=>false
def lr:D->Bool
 | .zx τ _=>τ.scalar
 | _=>false
def en(st:St)(τ:Ty):D->T D
 | .qA _ x=>match(we x:Option (den τ))with | some y=>.ret (.qA τ y) | none=>.fail
 | .ptr b off=>match st[b]? with
  | some (.var d)=>match bif Nat.beq off 0 then gX τ d else none with | some y=>.ret (.qA τ y) | none=>.fail
  | _=>.fail
 | _=>.fail
def fk(st:St):pn->D->T D
 | .im τ,d=>(nA st τ d).bind λx=>.ret (.zx τ x)
 | .rp τ,d=>en st τ d
def yA(st:St):List pn->List D->T (List D)
 | [],[]=>.ret []
 | p::r,d::ds=>(fk st p d).bind λx=>(yA st r ds).bind λl=>.ret (x::l)
 | _,_=>.fail
def Jq(st:St):mX->D->T D
 | .ty τ,d=>(nA st τ d).bind λx=>.ret (.zx τ x)
 | .rp τ,d=>en st τ d
 | .qE f caps,.qE f' l=>bif Nat.beq f f' then(yA st caps l).bind λl=>.ret (.qE f l)else .fail
 | _,_=>.fail
def eC(st:St):List mX->List D->T (List D)
 | [],[]=>.ret []
 | p::r,d::ds=>(Jq st p d).bind λx=>(eC st r ds).bind λl=>.ret (x::l)
 | _,_=>.fail
def Sl:D->Bool | .ptr .. => true | _=>false
def ZP:D->Bool
 | .agg cs=>cs.any Xs
 | .qE _ l=>l.any λd=>Xs d||Sl d
 | .ptr .. => true
 | d=>Xs d
def Lh(r:Wd×St):T (Option D):=match r with
 | (.ret ds,[])=>.ret (some (jG ds))
 | _=>.fail
def ll(r:Wd×St):T (Option D):=match r with
 | (.ret ds,[])=>bif ds.all lr then .ret (some (jG ds))else .fail
 | _=>.fail
def kB(g:Nat)(s:Sig)(args:List D):yv :=
 bif !(args.any ZP)then .val ((eC [] s.params args).bind λl=>(c.fn g l []).bind Lh)
 else .rd λst=>(eC st s.params args).bind λl=>(c.fn g l []).bind ll
def iG(g:Nat)(args:List D):yv:=.wr λst=>(c.fn g args st).bind λr=>match r.1 with
 | .ret ds=>.ret (some (jG ds),r.2)
 | .jg _=>.fail
def jM(g:Nat):Nat:=bif Nat.ble 1000000 g then g % 1000000 else g
def ux{α:Type}(g:Nat)(l caps:List α):List α:=bif Nat.ble 1000000 g then caps++l else l++caps
def gi(f:Option D)(args:List (Option D)):yv:=match f,vJ args with
 | some (.qE g caps),some l=>match c.sig (jM g) (ux g l caps)with
  | some s=>kB c (jM g) s (ux g l caps)
  | none=>iG c (jM g) (ux g l caps)
 | _,_=>bad
def YV(a b:Int):Int:=if b<a then b else a
def pz(a b:Int):Int:=if a<b then b else a
def tE(f:Int->Int->Int)(args:List (Option D)):yv:=match args with
 | [x,y]=>match asInt x,asInt y with
  | some (k,a),some (k',b)=>bif decide (k=k')then ib k (f a b)else bad
  | _,_=>bad
 | _=>bad
def jm{α:Type}(off len:Nat)(xs l:List α):List α:=xs.take off++l.take len++xs.drop (off+min len l.length)
def DH(k:IntKind)(b qh off len:Nat)(l:List Int)(st:St):T (Option D×St):=match st[b]? with
 | some (.arr uO e' xs)=>match ex (.int k) xs with
  | some xs=>.zC (qh=uO/\off+len<=List.length xs) (.ret (some (.zx i64 ((min len l.length:Nat):Int)),st.set b (.arr uO (.int k) (jm off len xs l))))
  | none=>.fail
 | _=>.fail
def KG(t:Nat)(s x:Option D):yv:=match bO c t with
 | some et=>match c.P.underlying et,bN c et,s,x with
  | some (.int k),some 1,some (.ms b qh (.int k') off len),some d=>bif decide (k'=k)then .wr λst=>(eB st d).bind λy=>match Jk (.int k) y with
    | some l=>DH k b qh off len l st
    | none=>.fail
   else bad
  | _,_,_,_=>bad
 | none=>bad
def cw(b:Builtin)(ts:List Nat)(args:List (Option D)):yv:=match b,ts,args with
 | .len,t::_,x::_=>ID c t x
 | .append,[t,t'],[s,x]=>bif Nat.beq t t' then oe c t s x else iH c t t' s x
 | .copy,[t,_],[s,x]=>KG c t s x
 | .min,_,args=>tE YV args
 | .max,_,args=>tE pz args
 | _,_,_=>bad
def vN(fr:Fr):Operand->Option D
 | .tmp t=>fr.get t
 | .const v=>ri v
 | .global _=>none
 | .func f=>bif Nat.blt f 1000000 then some (.qE f [])else none
def mg(x:Option D):yv:=match x with
 | some (.ptr b o)=>val (.ptr b o)
 | some (.qA τ x)=>val (.qA τ x)
 | some (.vD b v e i o)=>val (.vD b v e i o)
 | some (.qE f l)=>val (.qE f l)
 | _=>bad
def Yi(x a b:Option D):yv:=match asBool x with
 | some x=>.val (.ite x (.ret a) (.ret b))
 | none=>bad
def fR(t:Nat)(x:Option D):yv:=match c.P.underlying t with
 | some (.interface _) | none=>bad
 | some _=>match x with | some d=>val (.iface t d) | none=>bad
def Dt(x:Option D):yv:=match x with
 | some d=>bif d.vS||d.typed.isSome then bad else .wr λst=>.ret (some (.ptr st.length 0),st++[.var d])
 | none=>bad
def FM(t:Nat)(x:Option D):yv:=match x with
 | some (.zx τ x)=>val (.qA τ x)
 | some d=>match V8 c 20 t with
  | some τ=>match gX τ d with | some x=>val (.qA τ x) | none=>bad
  | none=>bad
 | none=>bad
def z0N:Option Nat->Bool
 | some s=>c.ro s
 | none=>false
def Ix(t:Nat)(dst:Option Nat)(x:Option D):yv:=bif z0N c dst then FM c t x else Dt x
def cX(t:Nat):yv:=match rF c t with
 | some d=>.wr λst=>.ret (some (.ptr st.length 0),st++[.var d])
 | none=>bad
def qm(ρ:Operand->Option D)(o:Oper):yv:=match o.op with
 | .move x | .assign x=>.val (.ret (ρ x))
 | .pick x a b=>Yi (ρ x) (ρ a) (ρ b)
 | .alloc t=>cX c t
 | .box t x=>Ix c t o.dst (ρ x)
 | .load t a=>Zi c t (ρ a)
 | .store t a v=>si c t (ρ a) (ρ v)
 | .nilCheck x=>mg (ρ x)
 | .binOp op t x y _=>Yk c op t y (ρ x) (ρ y)
 | .typeAssert x _ t ok=>dG c (ρ x) t ok
 | .unOp op _ x=>Iq op (ρ x)
 | .convert s t x=>convertOp c s t (ρ x)
 | .makeInterface t x=>fR c t (ρ x)
 | .makeFunc (.func f) first cap=>bif Nat.beq first.size 0&&Nat.blt f 1000000 then match vJ (cap.toList.map ρ)with | some l=>val (.qE f l) | none=>bad
   else bif Nat.beq cap.size 0&&Nat.blt f 1000000 then match vJ (first.toList.map ρ)with | some l=>val (.qE (f+1000000) l) | none=>bad else bad
 | .makeSlice t l m=>Ky c t (ρ l) (ρ m)
 | .slice t x lo hi mx=>V0 c t (ρ x) (lo.map ρ) (hi.map ρ) (mx.map ρ)
 | .fieldAddr s x f=>fH c s f (ρ x)
 | .field s x f=>Vq c s f (ρ x)
 | .indexAddr t x i=>fA c t (ρ x) (ρ i)
 | .index t x i=>WU c t (ρ x) (ρ i)
 | .extract x i=>oD (ρ x) i
 | .build t ps=>VA c t (ps.toList.map λp=>(p.1,ρ p.2))
 | .buildSlice t n ps=>dE c t n (ps.toList.map λp=>(p.1,ρ p.2))
 | .call cl=>match cl.callee with
  | .builtin b=>cw c b cl.argTypes.toList (cl.args.toList.map ρ)
  | .value f=>gi c (ρ f) (cl.args.toList.map ρ)
  | .invoke _ _=>bad
 | _=>bad
def zr:yv->St->T (Option D×St)
 | .val t,st=>t.bind λd=>.ret (d,st)
 | .rd k,st=>(k st).bind λd=>.ret (d,st)
 | .wr k,st=>k st
end ops
end Go.AM
namespace Go.AM
def yv.kind:yv->Nat
 | .val _=>0
 | .rd _=>1
 | .wr _=>2
def vK(ops:Array Oper)(j:Nat):Option Nat:=match ops[j]? with | some o=>o.dst | none=>none
def Ce:D:=.jW []
def ve(n:Nat):Option Nat->Bool
 | some t=>Nat.blt t n
 | none=>true
section
variable (c:Ctx)
variable [lE]
def gm(kn:Kn):Operand->Option Bool
 | .tmp t=>kn.get t
 | .const (.bool b)=>some b
 | _=>none
def Qh(kn:Kn):Op->Option Bool
 | .move x | .assign x=>gm kn x
 | .pick x a b=>match gm kn x with
  | some true=>gm kn a
  | some false=>gm kn b
  | none=>none
 | _=>none
def ep(kn:Kn)(fr:Fr)(o:Oper):yv:=match o.op with
 | .pick x a b=>match gm kn x with
  | some true=>.val (.ret (vN fr a))
  | some false=>.val (.ret (vN fr b))
  | none=>qm c (vN fr) o
 | _=>qm c (vN fr) o
def Qn(kn:Kn)(dst:Option Nat)(b:Option Bool):Kn:=match dst with | some t=>(t,b)::kn | none=>kn
inductive RK where
 | z (k:Nat) | rd (b:Nat) | wr (free:List Nat) | up (b:Nat)
def RK.base:RK->Nat
 | .z k=>k
 | .rd _=>1
 | .wr _=>2
 | .up _=>2
def others(n:Nat)(l:List Nat):List Nat:=(List.range n).filter λb => !(l.any (Nat.beq b))
def RQ(d:Option D):Option Nat:=match d with
 | some d=>match d with
  | .ptr b _=>some b
  | .vD b _ _ _ _=>some b
  | _=>none
 | none=>none
def Bb(bi:Builtin)(l:List (Option D)):RK:=match bi with
 | .append=>match l with | [some (.ms b _ _ _ _),some x]=>bif Xs x then .z 2 else .up b | _=>.z 2
 | _=>.z 2
def xH(ρ:Operand->Option D)(st:St)(o:Oper):RK:=match(qm c ρ o).kind with
 | 1=>match o.op with
  | .load _ a=>match RQ (ρ a)with | some b=>.rd b | none=>.z 1
  | _=>.z 1
 | 2=>match o.op with
  | .alloc _=>.wr (others st.length [])
  | .store _ a _=>match RQ (ρ a)with | some b=>.up b | none=>.z 2
  | .call cl=>match cl.callee with
   | .value f=>match ρ f,vJ (cl.args.toList.map ρ)with | some (.qE g caps),some l=>.wr (c.free (jM g) (ux g l caps) st) | _,_=>.z 2
   | .builtin bi=>Bb bi (cl.args.toList.map ρ)
   | _=>.z 2
  | _=>.z 2
 | k=>.z k
structure gz where
 fr:Fr
 kn:Kn
 st:St
 ks:List Nat      -- kinds of what has run,the last first
 bk:List RK
def y3(n:Nat)(o:Oper)(s:gz):T gz :=
 bif ve n o.dst then
  let cl:=ep c s.kn s.fr o
  (zr cl s.st).bind λr=>.ret ⟨s.fr.put o.dst r.1,Qn s.kn o.dst (Qh s.kn o.op),r.2,cl.kind::s.ks,xH c (vN s.fr) s.st o::s.bk⟩
 else .fail
def ur(o:Oper)(s:gz):gz:=⟨s.fr.put o.dst (some Ce),Qn s.kn o.dst none,s.st,0::s.ks,.z 0::s.bk⟩
def gz.ye(s:gz)(t:Nat)(b:Bool):gz:={ s with kn:=(t,some b)::s.kn }
def stepG(n:Nat)(ops:Array Oper)(o:Oper)(s:gz):T gz:=match o.guard with
 | none=>y3 c n o s
 | some (j,want)=>match vK ops j with
  | none=>.fail
  | some t=>match s.kn.get t with
   | some b=>bif b==want then y3 c n o s else bif ve n o.dst then .ret (ur o s)else .fail
   | none=>match s.fr.get t with
    | some (.zx .bool x)=>bif ve n o.dst then
      .ite x (bif want then y3 c n o (s.ye t true)else .ret (ur o (s.ye t true)))
          (bif want then .ret (ur o (s.ye t false))else y3 c n o (s.ye t false))
     else .fail
    | some (.jW [])=>bif ve n o.dst then .ret (ur o s)else .fail
    | _=>.fail
def cd(n:Nat)(ops:Array Oper):List Oper->gz->T gz
 | [],s=>.ret s
 | o::l,s=>(stepG c n ops o s).bind λs'=>cd n ops l s'
def tmpsOf(ops:Array Oper)(o:Oper):List Nat :=
 (match o.dst with | some d=>[d] | none=>[]) ++
 (match o.guard with | some (j,_)=>(match vK ops j with | some s=>[s] | none=>[]) | none=>[]) ++
 o.op.operands.toList.filterMap λ| .tmp t=>some t | _=>none
def qP(l:List Oper):List Nat->List Nat
 | acc=>match l with
  | []=>acc
  | o::r=>qP r (acc++[o.after.toList.foldl (λs e=>bif Region.binds .any e then s ||| 2 ^ e.on ||| acc.getD e.on 0 else s) 0])
def ordered(bs:List Nat)(i j:Nat):Bool:=Nat.testBit (bs.getD j 0) i
def vF(k l:Nat):Bool:=(Nat.beq k 2 && !Nat.beq l 0)||(Nat.beq l 2 && !Nat.beq k 0)
def YW{K:Type}(cl:K->K->Bool)(bs:List Nat)(xs:List (Nat×Option Nat×List Nat×K))(j:Nat)(dj:Option Nat)(tj:List Nat)(kj:K):Bool :=
 xs.all λx=>ordered bs x.1 j||(!(match x.2.1 with | some d=>tj.contains d | none=>false) && !(match dj with | some d=>x.2.2.1.contains d | none=>false) && !cl x.2.2.2 kj)
def cW{K:Type}(cl:K->K->Bool)(ops:Array Oper)(bs:List Nat):List Oper->List K->Nat->List (Nat×Option Nat×List Nat×K)->Bool
 | [],_,_,_=>true
 | o::l,k::ks,j,xs=>let tj:=tmpsOf ops o; YW cl bs xs j o.dst tj k&&cW cl ops bs l ks (j+1) ((j,o.dst,tj,k)::xs)
 | _,_,_,_=>false
def kI:List Oper->Nat->Bool
 | [],_=>true
 | o::l,j=>o.after.toList.all (λe => !Region.binds .any e||Nat.blt e.on j)&&kI l (j+1)
def Hb(ops:Array Oper)(ks:List Nat):Bool :=
 let l:=ops.toList
 kI l 0&&cW vF ops (qP l []) l ks 0 []
def s9(o:Oper):Bool:=(match o.op with | .alloc _=>true | _=>false)&&o.guard.isNone&&o.dst.isSome
def Zq:List Oper->List Nat->List Nat
 | o::l,k::ks=>(bif s9 o then 3 else k)::Zq l ks
 | _,_=>[]
def ij(k l:Nat):Bool:=bif Nat.beq k 3&&Nat.beq l 3 then false else vF (bif Nat.beq k 3 then 2 else k) (bif Nat.beq l 3 then 2 else l)
def ZX:List Oper->Nat->List Nat
 | [],_=>[]
 | o::l,i=>bif s9 o then i::ZX l (i+1)else ZX l (i+1)
def Jx(bs al:List Nat)(n:Nat):Bool:=(List.range n).all λj => !(al.any λp=>ordered bs p j)||al.all λp=>ordered bs p j
def HT(ops:Array Oper)(ks:List Nat):Bool :=
 let l:=ops.toList
 kI l 0&&(ks.all λk=>Nat.ble k 2)&&cW ij ops (qP l []) l (Zq l ks) 0 []&&Jx (qP l []) (ZX l 0) l.length
def vA:RK->RK->Bool
 | .rd b,.wr A => !(A.any (Nat.beq b))
 | .wr A,.rd b => !(A.any (Nat.beq b))
 | .rd b,.up a=>Nat.beq a b
 | .up a,.rd b=>Nat.beq a b
 | .up a,.up b=>Nat.beq a b
 | x,y=>vF x.base y.base
def HE(ops:Array Oper)(ks:List RK):Bool :=
 let l:=ops.toList
 kI l 0&&cW vA ops (qP l []) l ks 0 []
def mV(ops:Array Oper)(ks:List Nat)(bk:List RK):Bool:=Hb ops ks||HT ops ks||HE ops bk
def yq(n:Nat)(ops:Array Oper)(draw:Bool)(fr:Fr)(kn:Kn)(st:St):T gz :=
 (cd c n ops ops.toList ⟨fr,kn,st,[],[]⟩).bind λs=>bif !draw||mV ops s.ks.reverse s.bk.reverse then .ret s else .fail
structure z4x where
 ex:Ex
 fr:Fr
 kn:Kn
 st:St
structure z6j where
 ex:Ex
 out:List (Nat×D)
 st:St
abbrev z2T:=Nat->Fr->St->T z6j
def RI(l:List (Nat×D)):Fr:=l.map λp=>(p.1,some p.2)
def ev(n:Nat)(L:z2T):Code->Fr->Kn->St->T z4x
 | .skip,fr,kn,st=>.ret ⟨.normal,fr,kn,st⟩
 | .region _ ops draw,fr,kn,st=>(yq c n ops draw fr kn st).bind λs=>.ret ⟨.normal,s.fr,s.kn,s.st⟩
 | .seq a b,fr,kn,st=>(ev n L a fr kn st).bind λr=>match r.ex with
  | .normal=>ev n L b r.fr r.kn r.st
  | _=>.ret r
 | .cond x a b,fr,kn,st=>match gm kn x with
  | some true=>ev n L a fr kn st
  | some false=>ev n L b fr kn st
  | none=>match x with
   | .tmp t=>match fr.get t with
    | some (.zx .bool v)=>.ite v (ev n L a fr ((t,some true)::kn) st) (ev n L b fr ((t,some false)::kn) st)
    | _=>.fail
   | _=>.fail
 | .block id (.loop _),fr,_,st=>(L id fr st).bind λr=>match r.ex with
   | .exit id'=>bif Nat.beq id' id then .ret ⟨.normal,RI r.out,[],r.st⟩else .ret ⟨.exit id',RI r.out,[],r.st⟩
   | .normal=>.fail
   | x=>.ret ⟨x,RI r.out,[],r.st⟩
 | .block id a,fr,kn,st=>(ev n L a fr kn st).bind λr=>match r.ex with
  | .exit id'=>bif Nat.beq id' id then .ret { r with ex:=.normal } else .ret r
  | _=>.ret r
 | .exit id,fr,kn,st=>.ret ⟨.exit id,fr,kn,st⟩
 | .ret,fr,kn,st=>.ret ⟨.ret,fr,kn,st⟩
 | _,_,_,_=>.fail
def xN:List D->Nat->Fr
 | [],_=>[]
 | d::r,i=>(i,some d)::xN r (i+1)
def ym(fr:Fr)(st:St):List ResultVar->T (List D)
 | []=>.ret []
 | .tmp t::r=>match fr.get t with
  | some d=>(ym fr st r).bind λl=>.ret (d::l)
  | none=>.fail
 | .cell a t::r=>match fr.get a with
  | some (.ptr b off)=>match st[b]? with
   | some (.var d)=>match Y3 c t d off with
    | some x=>(ym fr st r).bind λl=>.ret (x::l)
    | none=>.fail
   | _=>.fail
  | _=>.fail
def va(n:Nat):D->Bool
 | .ptr b _=>Nat.blt b n
 | .jr b _=>Nat.blt b n
 | .vD b .. => Nat.blt b n
 | .ms b .. => Nat.blt b n
 | .qE .. | .agg _ | .jW _ | .iface .. => false
 | _=>true
def kM(n:Nat):D->Bool
 | .qE _ l=>l.all (va n)
 | .agg l=>l.all (va n)
 | .iface _ d=>va n d
 | d=>va n d
def V3(n:Nat):jn->Bool
 | .var d=>kM n d
 | _=>true
end
end Go.AM
namespace Go.AM
open Go.RowKit
inductive Rc(w:World)(ok:Nat->Prop):(τ:Ty)->den τ->List Value->Prop
 | int (k:IntKind) (n:Int):Rc w ok (.int k) n [.int k n]
 | bool (b:Bool):Rc w ok .bool b [.bool b]
 | str (s:zf):Rc w ok .str s [.string ⟨s.toArray⟩]
 | bI (e:Ty) (a:Option Addr):Rc w ok (.sl e) ([]:List (den e)) [.slice a 0 0]
 | sl (e:Ty) (l:List (den e)) (blk off cap:Nat) (f:Nat->List Value) (xO:ok blk) (wD:l.length<=cap)
   (h:∀ i (hi:i<l.length),Rc w ok e l[i] (f i))
   (hc:∀ i,i<l.length->∀ j v,(f i)[j]? = some v->w.cell? ⟨blk,off+i*e.size+j,none⟩=some v) :
   Rc w ok (.sl e) l [.slice (some ⟨blk,off,none⟩) l.length cap]
 | nil:Rc w ok .nil () []
 | cons (a b:Ty) (x:den a) (y:den b) (c1 c2:List Value) (h1:Rc w ok a x c1) (h2:Rc w ok b y c2):Rc w ok (.cons a b) (x,y) (c1++c2)
 | expr (k:Int) (n:den X1) (s:zf) (l:List Expr) (cs:List Value) (h:Rc w ok pX (k,n,s,l,()) cs):Rc w ok .expr (.mk k n s l) cs
def Yf(w w':World)(ok rR:Nat->Prop):Prop:=∀ k,ok k->rR k/\w'.heap[k]? = w.heap[k]?
theorem yo{w w':World}{a:Addr}(h:w'.heap[a.block]? = w.heap[a.block]?):w'.cell? a=w.cell? a:=by simp[World.cell?,h]
section
variable {w w':World} {ok rR:Nat->Prop}
theorem Rc.mono{τ:Ty}{x:den τ}{cs:List Value}(hs:Yf w w' ok rR)(h:Rc w ok τ x cs):Rc w' rR τ x cs:=by
 induction h with
 | int k n=>exact .int k n
 | bool b=>exact .bool b
 | str s=>exact .str s
 | bI e a=>exact .bI e a
 | sl e l blk off cap f xO wD h hc ih=>exact .sl e l blk off cap f (hs _ xO).1 wD ih λi hi j v hv=>by rw[yo (hs _ xO).2]; exact hc i hi j v hv
 | nil=>exact .nil
 | cons a b x y c1 c2 h1 h2 i1 i2=>exact .cons a b x y c1 c2 i1 i2
 | expr k n s l cs h ih=>exact .expr k n s l cs ih
theorem Rc.len{τ:Ty}{x:den τ}{cs:List Value}(h:Rc w ok τ x cs):cs.length=τ.size:=by
 induction h with
 | cons a b x y c1 c2 h1 h2 i1 i2=>simp[Ty.size,i1,i2]
 | expr k n s l cs h ih=>simpa[Ty.size]using ih
 | _=>rfl
theorem Rc.one{τ:Ty}{x:den τ}{cs:List Value}(h:Rc w ok τ x cs):∀ v∈cs,v.oneCell'=true:=by
 induction h with
 | cons a b x y c1 c2 h1 h2 i1 i2=>grind
 | expr k n s l cs h ih=>exact ih
 | _=>intro v hv; simp at hv; try (subst hv; rfl)
theorem Rc.jJ{k:IntKind}{n:Int}{cs:List Value}(h:Rc w ok (.int k) n cs):cs=[.int k n]:=by cases h; rfl
theorem Rc.uG{n:Bool}{cs:List Value}(h:Rc w ok .bool n cs):cs=[.bool n]:=by cases h; rfl
theorem Rc.xM{n:zf}{cs:List Value}(h:Rc w ok .str n cs):cs=[.string ⟨n.toArray⟩]:=by cases h; rfl
theorem Rc.cons_inv{a b:Ty}{x:den (.cons a b)}{cs:List Value}(h:Rc w ok (.cons a b) x cs):∃ c1 c2,cs=c1++c2/\Rc w ok a x.1 c1/\Rc w ok b x.2 c2:=by
 cases h with | cons _ _ x y c1 c2 h1 h2=>exact⟨c1,c2,rfl,h1,h2⟩
theorem Rc.zN{x:den .nil}{cs:List Value}(h:Rc w ok .nil x cs):cs=[]:=by cases h; rfl
theorem Rc.Ja{x:Expr}{cs:List Value}(h:Rc w ok .expr x cs):Rc w ok pX x.DK cs:=by cases h with | expr k n s l cs h=>exact h
theorem Rc.p7{e:Ty}{l:List (den e)}{cs:List Value}(h:Rc w ok (.sl e) l cs):(l=[]/\∃ a,cs=[.slice a 0 0]) \/
  ∃ (blk off cap:Nat) (f:Nat->List Value),cs=[.slice (some ⟨blk,off,none⟩) l.length cap]/\ok blk/\l.length<=cap/\(∀ i (hi:i<l.length),Rc w ok e l[i] (f i)) /\
   (∀ i,i<l.length->∀ j v,(f i)[j]? = some v->w.cell? ⟨blk,off+i*e.size+j,none⟩=some v):=by
 cases h with
 | bI _ a=>simp
 | sl _ _ blk off cap f xO wD h hc=>exact .inr ⟨blk,off,cap,f,rfl,xO,wD,h,hc⟩
end
def pk(τ:Ty)(cs:List Value):Value:=if τ.isAgg then .agg cs.toArray else cs.headD undef
structure KS where
 w:World
 ok:Nat->Prop
 ph:List (Option (Nat×Nat))
 st:St
def Gn(ph:List (Option (Nat×Nat)))(b z5J:Nat)(e:Ty)(off len:Nat)(v:Value):Prop :=
 off+len<=z5J/\((len=0/\off=0/\v=.slice none 0 0/\ph[b]? = some none) \/
  ∃ (blk n o cap:Nat),ph[b]? = some (some (blk,n))/\v=.slice (some ⟨blk,o,none⟩) len cap/\len<=cap/\(off+cap)*e.size<=n/\(cap=0\/o=off*e.size))
def Old(st:St)(b qh:Nat):Prop:=st[b]? = some .dead\/∃ (v0:Nat) (e0:Ty) (mc:List (den e0)),st[b]? = some (.arr v0 e0 mc)/\qh<=v0
def D.one:D->Bool
 | .zx τ _ => !τ.isAgg
 | .agg _ | .jW _=>false
 | _=>true
def eM(f:Nat)(vs:List Value):Value:=bif Nat.ble 1000000 f then .func (.func (f % 1000000)) vs.toArray #[]else .func (.func f) #[] vs.toArray
theorem Vv{f:Nat}(h:Nat.blt f 1000000=true)(vs:List Value):eM f vs=.func (.func f) #[] vs.toArray:=by
 have:Nat.ble 1000000 f=false:=by
  cases hb:Nat.ble 1000000 f with
  | false=>rfl
  | true=>have h1:=Nat.le_of_ble_eq_true hb; have h2:=Nat.le_of_ble_eq_true h; omega
 unfold eM; rw[this]; rfl
theorem Ge{f:Nat}(h:Nat.blt f 1000000=true)(vs:List Value):eM (f+1000000) vs=.func (.func f) vs.toArray #[]:=by
 have h1:Nat.ble 1000000 (f+1000000)=true:=Nat.ble_eq_true_of_le (by omega)
 have h2:=Nat.le_of_ble_eq_true h
 have h3:(f+1000000) % 1000000=f:=by omega
 unfold eM; rw[h1,h3]; rfl
theorem Zl(f:Nat)(vs:List Value):(eM f vs).cells.toList=[eM f vs]:=by
 unfold eM; cases Nat.ble 1000000 f<;>rfl
theorem Ed(f:Nat)(vs:List Value):(eM f vs).oneCell'=true:=by
 unfold eM; cases Nat.ble 1000000 f<;>rfl
theorem tn(f:Nat)(vs:List Value):∃ g a b,eM f vs=.func (.func g) a b:=by
 unfold eM; cases Nat.ble 1000000 f<;>exact⟨_,_,_,rfl⟩
inductive RD(κ:KS):D->Value->Prop
 | zx (τ:Ty) (x:den τ) (cs:List Value) (h:Rc κ.w κ.ok τ x cs):RD κ (.zx τ x) (pk τ cs)
 | qL (e:Ty) (a:Option Addr):RD κ (.tight e ([]:List (den e)) false) (.slice a 0 0)
 | tight (e:Ty) (l:List (den e)) (ne:Bool) (blk off:Nat) (f:Nat->List Value) (vP:ne=true->l≠[]) (xO:κ.ok blk)
   (h:∀ i (hi:i<l.length),Rc κ.w κ.ok e l[i] (f i))
   (hc:∀ i,i<l.length->∀ j v,(f i)[j]? = some v->κ.w.cell? ⟨blk,off+i*e.size+j,none⟩=some v) :
   RD κ (.tight e l ne) (.slice (some ⟨blk,off,none⟩) l.length l.length)
 | qZ:RD κ .qZ (.slice none 0 0)
 | jF:RD κ .jF (.pointer none)
 | qB:RD κ .qB .nilIface
 | vj:RD κ .vj .nilFunc
 | vf:RD κ .vf (.map none)
 | lI (v:Value) (h:v.oneCell'=true):RD κ .lI v
 | yK (T:Nat):RD κ (.yK T) (.pointer none)
 | yG (b T:Nat) (d:D) (hd:κ.st[b]? = some (.var d)):RD κ (.jr b T) (.pointer none)
 | yF (b T blk n:Nat) (d:D) (hd:κ.st[b]? = some (.var d)) (h:κ.ph[b]? = some (some (blk,n))):RD κ (.jr b T) (.pointer (some ⟨blk,0,none⟩))
 | ptr (b off blk n:Nat) (d:D) (hd:κ.st[b]? = some (.var d)) (h:κ.ph[b]? = some (some (blk,n))):RD κ (.ptr b off) (.pointer (some ⟨blk,off,none⟩))
 | qA (τ:Ty) (x:den τ) (cs:List Value) (blk off:Nat) (xO:κ.ok blk) (h:Rc κ.w κ.ok τ x cs)
   (hc:∀ j v,cs[j]? = some v->κ.w.cell? ⟨blk,off+j,none⟩=some v):RD κ (.qA τ x) (.pointer (some ⟨blk,off,none⟩))
 | vD (b qh:Nat) (e:Ty) (idx off blk o:Nat) (hb:Old κ.st b qh)
   (h:∀ xs:List (den e),κ.st[b]? = some (.arr qh e xs)->idx<xs.length->∃ n:Nat,κ.ph[b]? = some (some (blk,n))/\o=idx*e.size+off) :
   RD κ (.vD b qh e idx off) (.pointer (some ⟨blk,o,none⟩))
 | ms (b qh:Nat) (e:Ty) (off len cap:Nat) (a:Option Addr) (hb:Old κ.st b qh) (wD:len<=cap) (ha:a=none->cap=0) (fI:∀ p,a=some p->p.spot=none)
   (h:∀ xs:List (den e),κ.st[b]? = some (.arr qh e xs)->Gn κ.ph b xs.length e off len (.slice a len cap)):RD κ (.ms b qh e off len) (.slice a len cap)
 | qE (f:Nat) (l:List D) (vs:List Value) (hl:l.length=vs.length) (h:∀ i (h1:i<l.length) (h2:i<vs.length),RD κ l[i] vs[i]):RD κ (.qE f l) (eM f vs)
 | agg (l:List D) (vs:List Value) (hl:l.length=vs.length) (ho:∀ d∈l,d.one=true) (h:∀ i (h1:i<l.length) (h2:i<vs.length),RD κ l[i] vs[i]):RD κ (.agg l) (.agg vs.toArray)
 | jW (l:List D) (vs:List Value) (hl:l.length=vs.length) (h:∀ i (h1:i<l.length) (h2:i<vs.length),RD κ l[i] vs[i]):RD κ (.jW l) (.tuple vs.toArray)
 | iface (t:Nat) (d:D) (v:Value) (h:RD κ d v):RD κ (.iface t d) (.iface t v)
def qj(κ:KS)(l:List D)(vs:List Value):Prop:=l.length=vs.length/\∀ i (h1:i<l.length) (h2:i<vs.length),RD κ l[i] vs[i]
def gT[lE](κ:KS)(b:Nat):jn->Prop
 | .dead=>True
 | .var d=>∃ (blk n:Nat) (cs:Array Value) (t:TypeId),κ.ph[b]? = some (some (blk,n))/\κ.w.heap[blk]? = some (.cells cs t (0,0))/\cs.size=n/\qj κ (zR d) cs.toList/\(∀ x∈zR d,x.one=true)/\∀ T,d.typed=some T->t=T
 | .arr _ e xs=>0<e.size/\((xs=[]/\κ.ph[b]? = some none) \/
   ∃ (blk n:Nat) (cs:Array Value) (t:TypeId),κ.ph[b]? = some (some (blk,n))/\κ.w.heap[blk]? = some (.cells cs t (0,0))/\cs.size=n/\xs.length*e.size<=n/\OF e t /\
    ∃ f:Nat->List Value,∀ i (hi:i<xs.length),Rc κ.w κ.ok e xs[i] (f i)/\∀ j v,(f i)[j]? = some v->cs[i*e.size+j]? = some v)
class vi extends lE where
 tab:List (Nat×(Obj->Prop))
def mC[vi](w:World)(ok:Nat->Prop):Prop:=∀ x∈vi.tab,ok x.1/\∃ o,w.heap[x.1]? = some o/\x.2 o
theorem mC.mono[vi]{w w':World}{ok rR:Nat->Prop}(h:mC w ok)(hs:Yf w w' ok rR):mC w' rR:=λx hx=>by
 obtain⟨h1,o,h2,h3⟩:=h x hx
 obtain⟨g1,g2⟩:=hs _ h1
 grind
structure Inv[vi](κ:KS):Prop where
 len:κ.ph.length=κ.st.length
 jN:∀ k,κ.ok k->k<κ.w.heap.size
 apart:∀ (b blk n:Nat),κ.ph[b]? = some (some (blk,n))->blk<κ.w.heap.size/\¬ κ.ok blk
 inj:∀ (b b' blk n n':Nat),κ.ph[b]? = some (some (blk,n))->κ.ph[b']? = some (some (blk,n'))->b=b'
 blk:∀ (b:Nat) (x:jn),κ.st[b]? = some x->gT κ b x
 gl:mC κ.w κ.ok
structure Ext(κ κ':KS):Prop where
 os:κ'.w.os=κ.w.os
 tape:κ'.w.tape=κ.w.tape
 output:κ'.w.output=κ.w.output
 size:κ.w.heap.size<=κ'.w.heap.size
 same:Yf κ.w κ'.w κ.ok κ'.ok
 fresh:∀ k,κ'.ok k->κ.ok k\/κ.w.heap.size<=k\/∃ b n:Nat,κ.ph[b]? = some (some (k,n))
 Lk:∀ (b blk n:Nat),κ'.ph[b]? = some (some (blk,n))->κ.ph[b]? = some (some (blk,n))\/κ.w.heap.size<=blk
 var:∀ (b:Nat) (d:D),κ.st[b]? = some (.var d)->(∃ d',κ'.st[b]? = some (.var d'))/\κ'.ph[b]? = κ.ph[b]?
 arr:∀ (b v0:Nat) (e:Ty) (mc:List (den e)),κ.st[b]? = some (.arr v0 e mc)->κ'.st[b]? = some .dead \/
  ∃ (v1:Nat) (yd:List (den e)),κ'.st[b]? = some (.arr v1 e yd)/\v0<=v1/\(v0=v1->κ'.ph[b]? = κ.ph[b]? /\ mc.length=yd.length)
 dead:∀ (b:Nat),κ.st[b]? = some .dead->κ'.st[b]? = some .dead
 Uu:κ.st.length<=κ'.st.length
 frame:∀ k,k<κ.w.heap.size->(∀ (b n:Nat),κ.ph[b]? ≠ some (some (k,n)))->κ'.w.heap[k]? = κ.w.heap[k]?
theorem Ext.refl(κ:KS):Ext κ κ :=
 ⟨rfl,rfl,rfl,Nat.le_refl _,λ_ h=>⟨h,rfl⟩,λ_ h=>.inl h,λ_ _ _ h=>.inl h,λ_ d h=>⟨⟨d,h⟩,rfl⟩,
  λ_ qh _ xs h=>.inr ⟨qh,xs,h,Nat.le_refl _,λ_=>⟨rfl,rfl⟩⟩,λ_ h=>h,Nat.le_refl _,λ_ _ _=>rfl⟩
theorem Ext.trans{a b c:KS}(h:Ext a b)(k:Ext b c):Ext a c:=by
 refine⟨k.os.trans h.os,k.tape.trans h.tape,k.output.trans h.output,Nat.le_trans h.size k.size,?_,?_,?_,?_,?_,λb hb=>k.dead b (h.dead b hb),Nat.le_trans h.Uu k.Uu,?_⟩
 ·intro i hi
  obtain⟨h1,h2⟩:=h.same i hi
  obtain⟨h3,h4⟩:=k.same i h1
  grind
 ·intro i hi
  rcases k.fresh i hi with h1 | h1 | ⟨b,n,h1⟩
  ·exact h.fresh i h1
  ·exact .inr (.inl (Nat.le_trans h.size h1))
  ·rcases h.Lk b i n h1 with h2 | h2
   ·grind
   ·grind
 ·intro i blk n hi
  rcases k.Lk i blk n hi with h1 | h1
  ·exact h.Lk i blk n h1
  ·exact .inr (Nat.le_trans h.size h1)
 ·intro i d hi
  obtain⟨⟨d',jR⟩,hp⟩:=h.var i d hi
  obtain⟨z7U,TJ⟩:=k.var i d' jR
  grind
 ·intro i v0 e mc hi
  rcases h.arr i v0 e mc hi with h1 | ⟨v1,x1,h1,h2,h3⟩
  ·exact .inl (k.dead i h1)
  ·rcases k.arr i v1 e x1 h1 with g1 | ⟨v2,x2,g1,g2,g3⟩
   ·grind
   ·grind
 ·intro i hi hn
  refine(k.frame i (Nat.lt_of_lt_of_le hi h.size) λb n hb => ?_).trans (h.frame i hi hn)
  rcases h.Lk b i n hb with h1 | h1
  ·grind
  ·omega
theorem Ext.old{κ κ':KS}(x:Ext κ κ'){b qh:Nat}(h:Old κ.st b qh):Old κ'.st b qh:=by
 rcases h with h | ⟨v0,e0,mc,h,hv⟩
 ·exact .inl (x.dead b h)
 ·rcases x.arr b v0 e0 mc h with h1 | ⟨v1,x1,h1,h2,_⟩
  ·exact .inl h1
  ·exact .inr ⟨v1,e0,x1,h1,Nat.le_trans hv h2⟩
theorem Ext.back{κ κ':KS}(x:Ext κ κ'){b qh:Nat}(h:Old κ.st b qh){e:Ty}{xs:List (den e)}(hx:κ'.st[b]? = some (.arr qh e xs)) :
  ∃ mc:List (den e),κ.st[b]? = some (.arr qh e mc)/\κ'.ph[b]? = κ.ph[b]? /\ mc.length=xs.length:=by
 rcases h with h | ⟨v0,e0,mc,h,hv⟩
 ·have:=x.dead b h; rw[hx]at this; cases this
 ·rcases x.arr b v0 e0 mc h with h1 | ⟨v1,x1,h1,h2,h3⟩
  ·grind
  ·grind
theorem RD.mono{κ κ':KS}(x:Ext κ κ'){d:D}{v:Value}(h:RD κ d v):RD κ' d v:=by
 induction h with
 | zx τ y cs h=>exact .zx τ y cs (h.mono x.same)
 | qL e a=>exact .qL e a
 | tight e l ne blk off f vP xO h hc=>exact .tight e l ne blk off f vP (x.same _ xO).1 (λi hi=>(h i hi).mono x.same) λi hi j v hv=>by rw[yo (x.same _ xO).2]; exact hc i hi j v hv
 | qZ=>exact .qZ
 | jF=>exact .jF
 | qB=>exact .qB
 | vj=>exact .vj
 | vf=>exact .vf
 | lI v h=>exact .lI v h
 | yK T=>exact .yK T
 | yG b T d hd =>
  obtain⟨⟨d',jR⟩,hp⟩:=x.var b d hd
  exact .yG b T d' jR
 | yF b T blk n d hd h =>
  obtain⟨⟨d',jR⟩,hp⟩:=x.var b d hd
  exact .yF b T blk n d' jR (hp.trans h)
 | ptr b off blk n d hd h =>
  obtain⟨⟨d',jR⟩,hp⟩:=x.var b d hd
  exact .ptr b off blk n d' jR (hp.trans h)
 | qA τ y cs blk off xO h hc=>exact .qA τ y cs blk off (x.same _ xO).1 (h.mono x.same) λj v hv=>by rw[yo (x.same _ xO).2]; exact hc j v hv
 | vD b qh e idx off blk o hb h =>
  refine .vD b qh e idx off blk o (x.old hb) λxs hx hi => ?_
  obtain⟨mc,h1,h2,h3⟩:=x.back hb hx
  grind
 | ms b qh e off len cap a hb wD ha fI h =>
  refine .ms b qh e off len cap a (x.old hb) wD ha fI λxs hx => ?_
  obtain⟨mc,h1,h2,h3⟩:=x.back hb hx
  have:=h mc h1
  unfold Gn at this ⊢
  grind
 | qE f l vs hl h ih=>exact .qE f l vs hl ih
 | agg l vs hl ho h ih=>exact .agg l vs hl ho ih
 | jW l vs hl h ih=>exact .jW l vs hl ih
 | iface t d v h ih=>exact .iface t d v ih
end Go.AM
namespace Go.AM
section
variable {α β:Type}
theorem T.zp{t:T α}{k:α->T β}{b:β}:(t.bind k).leads b↔∃ a,t.leads a/\(k a).leads b:=by
 induction t with
 | ret a=>simp[T.bind,T.leads]
 | ite c t e i1 i2 =>
  simp only[T.bind,T.leads]
  grind
 | zC p t ih =>
  simp only[T.bind,T.leads]; constructor
  ·grind
  ·grind
 | fail=>simp[T.bind,T.leads]
theorem T.vx{o:Option α}{a:α}:(T.QV o).leads a↔o=some a:=by cases o<;>simp[T.QV,T.leads]
end
section
variable {κ:KS}
theorem qj.nil:qj κ [] []:=⟨rfl,λi h _=>absurd h (Nat.not_lt_zero i)⟩
theorem qj.cons{d:D}{v:Value}{l:List D}{vs:List Value}(h:RD κ d v)(t:qj κ l vs):qj κ (d::l) (v::vs) :=
 ⟨by simp[t.1],λi h1 h2=>by cases i with | zero=>exact h | succ i=>exact t.2 i (by grind) (by grind)⟩
theorem qj.cons_inv{d:D}{l:List D}{vs:List Value}(h:qj κ (d::l) vs):∃ v r,vs=v::r/\RD κ d v/\qj κ l r:=by
 obtain⟨hl,h⟩:=h
 cases vs with
 | nil=>simp at hl
 | cons v r=>exact⟨v,r,rfl,h 0 (by simp) (by simp),by grind,λi h1 h2=>h (i+1) (by grind) (by grind)⟩
theorem qj.zN{vs:List Value}(h:qj κ [] vs):vs=[]:=List.eq_nil_of_length_eq_zero h.1.symm
theorem qj.append{l l':List D}{vs vs':List Value}(h:qj κ l vs)(h':qj κ l' vs'):qj κ (l++l') (vs++vs'):=by
 induction l generalizing vs with
 | nil=>rw[h.zN]; exact h'
 | cons d l ih=>obtain⟨v,r,rfl,h1,h2⟩:=h.cons_inv; exact .cons h1 (ih h2)
theorem qj.KZ{l l':List D}{vs:List Value}(h:qj κ (l++l') vs):∃ v1 v2,vs=v1++v2/\qj κ l v1/\qj κ l' v2:=by
 induction l generalizing vs with
 | nil=>exact⟨[],vs,rfl,.nil,h⟩
 | cons d l ih =>
  obtain⟨v,r,rfl,h1,h2⟩:=h.cons_inv
  obtain⟨v1,v2,rfl,h3,h4⟩:=ih h2
  exact⟨v::v1,v2,rfl,.cons h1 h3,h4⟩
theorem qj.get{l:List D}{vs:List Value}(h:qj κ l vs){i:Nat}{d:D}(hd:l[i]? = some d):∃ v,vs[i]? = some v/\RD κ d v:=by
 obtain⟨qc,he⟩:=List.getElem?_eq_some_iff.1 hd
 have h2:i<vs.length:=h.1▸qc
 exact⟨vs[i],List.getElem?_eq_getElem h2,he▸h.2 i qc h2⟩
theorem qj.take{l:List D}{vs:List Value}(h:qj κ l vs)(n:Nat):qj κ (l.take n) (vs.take n) :=
 ⟨by simp[h.1],λi h1 h2=>by simp; exact h.2 i (by grind) (by grind)⟩
theorem qj.drop{l:List D}{vs:List Value}(h:qj κ l vs)(n:Nat):qj κ (l.drop n) (vs.drop n) :=
 ⟨by simp[h.1],λi h1 h2=>by simp; exact h.2 (n+i) (by grind) (by grind)⟩
theorem qj.mono{κ':KS}(x:Ext κ κ'){l:List D}{vs:List Value}(h:qj κ l vs):qj κ' l vs:=⟨h.1,λi h1 h2=>(h.2 i h1 h2).mono x⟩
theorem nJ{τ:Ty}{cs:List Value}(h:cs.length=τ.size)(fQ:∀ v∈cs,v.oneCell'=true):(pk τ cs).cells.toList=cs:=by
 unfold pk
 split
 ·rfl
 ·rename_i hn
  have hs:τ.size=1:=by cases τ<;>simp[Ty.isAgg]at hn<;>rfl
  match cs,h,fQ with
  | [v],_,fQ =>
   have:=fQ v (by simp)
   cases v<;>first | rfl | cases this
  | [],h,_=>grind
  | _::_::_,h,_=>grind
theorem Zp{τ:Ty}(h:τ.isAgg=false)(v:Value):pk τ [v]=v:=by simp[pk,h]
theorem rQ{τ:Ty}(h:τ.isAgg=false):τ.size=1:=by cases τ<;>simp[Ty.isAgg]at h<;>rfl
theorem Rc.single{w:World}{ok:Nat->Prop}{τ:Ty}{x:den τ}{cs:List Value}(h:Rc w ok τ x cs)(ht:τ.isAgg=false):∃ v,cs=[v]:=by
 have:=h.len
 rw[rQ ht]at this
 match cs,this with
 | [v],_=>simp
theorem RD.dN{τ:Ty}{x:den τ}{v:Value}(ht:τ.isAgg=false)(h:Rc κ.w κ.ok τ x [v]):RD κ (.zx τ x) v:=by
 have:=RD.zx τ x [v] h
 rwa [Zp ht]at this
theorem RD.y4{τ:Ty}{x:den τ}{v:Value}(h:RD κ (.zx τ x) v):∃ cs,Rc κ.w κ.ok τ x cs/\v=pk τ cs:=by
 cases h with | zx _ _ cs h=>exact⟨cs,h,rfl⟩
theorem RD.wF{τ:Ty}{x:den τ}{v:Value}(h:RD κ (.zx τ x) v)(ht:τ.isAgg=false):Rc κ.w κ.ok τ x [v]:=by
 obtain⟨cs,hc,rfl⟩:=RD.y4 h
 obtain⟨u,rfl⟩:=hc.single ht
 rwa [Zp ht]
theorem RD.int{k:IntKind}{n:Int}:RD κ (.zx (.int k) n) (.int k n):=RD.dN rfl (.int k n)
theorem RD.bool{b:Bool}:RD κ (.zx .bool b) (.bool b):=RD.dN rfl (.bool b)
theorem RD.str{s:zf}:RD κ (.zx .str s) (.string ⟨s.toArray⟩):=RD.dN rfl (.str s)
theorem RD.jJ{k:IntKind}{n:Int}{v:Value}(h:RD κ (.zx (.int k) n) v):v=.int k n:=by have:=(h.wF rfl).jJ; simpa using this
theorem RD.uG{b:Bool}{v:Value}(h:RD κ (.zx .bool b) v):v=.bool b:=by have:=(h.wF rfl).uG; simpa using this
theorem RD.xM{s:zf}{v:Value}(h:RD κ (.zx .str s) v):v=.string ⟨s.toArray⟩:=by have:=(h.wF rfl).xM; simpa using this
theorem qj.one{d:D}{v:Value}(h:RD κ d v):qj κ [d] [v]:=.cons h .nil
theorem fu{τ:Ty}{x:den τ}{cs:List Value}(h:Rc κ.w κ.ok τ x cs):qj κ (flat τ x) cs:=by
 induction τ generalizing cs with
 | int k=>obtain⟨v,rfl⟩:=h.single rfl; exact .one (.dN rfl h)
 | bool=>obtain⟨v,rfl⟩:=h.single rfl; exact .one (.dN rfl h)
 | str=>obtain⟨v,rfl⟩:=h.single rfl; exact .one (.dN rfl h)
 | sl e _=>obtain⟨v,rfl⟩:=h.single rfl; exact .one (.dN rfl h)
 | nil=>rw[h.zN]; exact .nil
 | cons a b i1 i2=>obtain⟨c1,c2,rfl,h1,h2⟩:=h.cons_inv; exact(i1 h1).append (i2 h2)
 | expr =>
  obtain⟨c1,r1,rfl,h1,t1⟩:=h.Ja.cons_inv
  obtain⟨c2,r2,rfl,h2,t2⟩:=t1.cons_inv
  obtain⟨c3,r3,rfl,h3,t3⟩:=t2.cons_inv
  obtain⟨c4,r4,rfl,h4,t4⟩:=t3.cons_inv
  have e4:=t4.zN
  subst e4
  obtain⟨d1,s1,rfl,g1,u1⟩:=h2.cons_inv
  obtain⟨d2,s2,rfl,g2,u2⟩:=u1.cons_inv
  obtain⟨d3,s3,rfl,g3,u3⟩:=u2.cons_inv
  have e5:=u3.zN
  subst e5
  obtain⟨v1,rfl⟩:=h1.single rfl
  obtain⟨v3,rfl⟩:=h3.single rfl
  obtain⟨v4,rfl⟩:=h4.single rfl
  obtain⟨u1,rfl⟩:=g1.single rfl
  obtain⟨u2,rfl⟩:=g2.single rfl
  obtain⟨u3,rfl⟩:=g3.single rfl
  exact .cons (.dN rfl h1) (.cons (.dN rfl g1) (.cons (.dN rfl g2) (.cons (.dN rfl g3) (.cons (.dN rfl h3) (.cons (.dN rfl h4) .nil)))))
theorem bf:∀ (τ:Ty) (x:den τ),∀ d∈flat τ x,d.one=true
 | .int _,_,d,h | .bool,_,d,h | .str,_,d,h | .sl _,_,d,h=>by simp[flat]at h; subst h; rfl
 | .nil,_,d,h=>by simp[flat]at h
 | .cons a b,x,d,h=>by
  simp only[flat,List.mem_append]at h
  rcases h with h | h
  ·exact bf a x.1 d h
  ·exact bf b x.2 d h
 | .expr,x,d,h=>by simp[flat]at h; rcases h with rfl | rfl | rfl | rfl | rfl | rfl<;>rfl
theorem ni:∀ (τ:Ty) (x:den τ),(flat τ x).length=τ.size
 | .int _,_ | .bool,_ | .str,_ | .sl _,_ | .nil,_ | .expr,_=>rfl
 | .cons a b,x=>by simp[flat,Ty.size,ni a,ni b]
theorem X6{v:Value}(h:v.oneCell'=true):v.cells = #[v]:=by
 cases v<;>first | rfl | cases h
theorem uj{d:D}{v:Value}(h:RD κ d v)(ht:d.vS=false):qj κ (zR d) v.cells.toList:=by
 cases h with
 | zx τ x cs h=>rw[nJ h.len h.one]; exact fu h
 | agg l vs hl ho h=>exact⟨by simpa[Value.cells,zR]using hl,λi h1 h2=>by simp at h2 ⊢; exact h i h1 h2⟩
 | jW=>cases ht
 | qL e a=>exact .one (.qL e a)
 | tight e l ne blk off f vP xO h hc=>exact .one (.tight e l ne blk off f vP xO h hc)
 | qZ=>exact .one .qZ
 | jF=>exact .one .jF
 | qB=>exact .one .qB
 | vj=>exact .one .vj
 | vf=>exact .one .vf
 | lI v h=>rw[X6 h]; exact .one (.lI v h)
 | yK T=>exact .one (.yK T)
 | yG b T d hd=>exact .one (.yG b T d hd)
 | yF b T blk n d hd h=>exact .one (.yF b T blk n d hd h)
 | ptr b off blk n d hd h=>exact .one (.ptr b off blk n d hd h)
 | qA τ x cs blk off xO h hc=>exact .one (.qA τ x cs blk off xO h hc)
 | vD b qh e idx off blk o hb h=>exact .one (.vD b qh e idx off blk o hb h)
 | ms b qh e off len cap a hb wD ha fI h=>exact .one (.ms b qh e off len cap a hb wD ha fI h)
 | qE f l vs hl h=>rw[Zl]; exact .one (.qE f l vs hl h)
 | iface t d v h=>exact .one (.iface t d v h)
theorem ug{d:D}{v:Value}(h:RD κ d v):∀ x∈zR d,x.one=true:=by
 cases h with
 | zx τ x cs h=>exact bf τ x
 | agg l vs hl ho h=>exact ho
 | jW=>nofun
 | _=>intro x hx; simp[zR]at hx; subst hx; rfl
theorem RD.sD{d:D}{v:Value}(h:RD κ d v)(ho:d.one=true):v.oneCell'=true:=by
 cases h with
 | zx τ x cs h =>
  have ht:τ.isAgg=false:=by simpa[D.one]using ho
  obtain⟨v,rfl⟩:=h.single ht
  rw[Zp ht]
  exact h.one v (by simp)
 | agg=>cases ho
 | jW=>cases ho
 | lI v h=>exact h
 | qE f l vs=>exact Ed f vs
 | _=>rfl
theorem zX{a b:Ty}{x:den a}{y:den b}(h:(we x:Option (den b))=some y):∃ e:a=b,y=e▸x:=by
 unfold we at h
 grind
theorem jx{τ:Ty}{d:D}{v:Value}{x:den τ}(h:RD κ d v)(hx:gV τ d=some x)(ht:τ.isAgg=false):Rc κ.w κ.ok τ x [v]:=by
 cases h with
 | zx σ y cs h =>
  obtain⟨rfl,rfl⟩:=zX hx
  obtain⟨u,rfl⟩:=h.single ht
  rwa [Zp ht]
 | qL e a=>obtain⟨rfl,rfl⟩:=zX hx; exact .bI e a
 | tight e l ne blk off f vP xO h hc=>obtain⟨rfl,rfl⟩:=zX hx; exact .sl e _ blk off _ f xO (Nat.le_refl _) h hc
 | qZ =>
  cases τ with
  | sl e=>simp[gV]at hx; subst hx; exact .bI e none
  | _=>simp[gV]at hx
 | _=>simp[gV]at hx
theorem iR:∀ (τ:Ty) {ds:List D} {vs:List Value} {x:den τ} {r:List D},qj κ ds vs->uq τ ds=some (x,r) ->
  ∃ c1 c2,vs=c1++c2/\Rc κ.w κ.ok τ x c1/\qj κ r c2
 | .int k,[],_,_,_,_,he | .bool,[],_,_,_,_,he | .str,[],_,_,_,_,he | .sl e,[],_,_,_,_,he | .expr,[],_,_,_,_,he=>by simp[uq]at he
 | .int k,d::r,vs,x,r',h,he=>by
  simp only[uq]at he
  split at he
  ·rename_i y hy; cases he; obtain⟨v,u,rfl,h1,h2⟩:=h.cons_inv; exact⟨[v],u,rfl,jx h1 hy rfl,h2⟩
  ·cases he
 | .bool,d::r,vs,x,r',h,he=>by
  simp only[uq]at he
  split at he
  ·rename_i y hy; cases he; obtain⟨v,u,rfl,h1,h2⟩:=h.cons_inv; exact⟨[v],u,rfl,jx h1 hy rfl,h2⟩
  ·cases he
 | .str,d::r,vs,x,r',h,he=>by
  simp only[uq]at he
  split at he
  ·rename_i y hy; cases he; obtain⟨v,u,rfl,h1,h2⟩:=h.cons_inv; exact⟨[v],u,rfl,jx h1 hy rfl,h2⟩
  ·cases he
 | .sl e,d::r,vs,x,r',h,he=>by
  simp only[uq]at he
  split at he
  ·rename_i y hy; cases he; obtain⟨v,u,rfl,h1,h2⟩:=h.cons_inv; exact⟨[v],u,rfl,jx h1 hy rfl,h2⟩
  ·cases he
 | .nil,ds,vs,x,r,h,he=>by simp only[uq]at he; cases he; exact⟨[],vs,rfl,.nil,h⟩
 | .cons a b,ds,vs,x,r,h,he=>by
  simp only[uq]at he
  split at he
  ·rename_i y r' hy
   split at he
   ·rename_i z r'' hz
    cases he
    obtain⟨c1,c2,rfl,h1,h2⟩:=iR a h hy
    obtain⟨c3,c4,rfl,h3,h4⟩:=iR b h2 hz
    exact⟨c1++c3,c4,by simp,.cons a b y z c1 c3 h1 h3,h4⟩
   ·cases he
  ·cases he
 | .expr,d::r,vs,x,r',h,he=>by
  simp only[uq]at he
  split at he
  ·cases he
  ·rename_i k hk
   split at he
   ·rename_i d1 d2 d3 d4 d5 r0
    split at he
    ·rename_i a n m s l ha hn hm hs hl
     cases he
     obtain⟨v,u,rfl,h0,t0⟩:=h.cons_inv
     obtain⟨v1,u1,rfl,h1,t1⟩:=t0.cons_inv
     obtain⟨v2,u2,rfl,h2,t2⟩:=t1.cons_inv
     obtain⟨v3,u3,rfl,h3,t3⟩:=t2.cons_inv
     obtain⟨v4,u4,rfl,h4,t4⟩:=t3.cons_inv
     obtain⟨v5,u5,rfl,h5,t5⟩:=t4.cons_inv
     refine⟨[v]++(([v1]++([v2]++([v3]++[])))++([v4]++([v5]++[]))),u5,by simp,.expr _ _ _ _ _ ?_,t5⟩
     exact .cons i64 _ k _ _ _ (jx h0 hk rfl) (.cons X1 _ (a,n,m,()) _ _ _ (.cons .bool _ a _ _ _ (jx h1 ha rfl) (.cons _ _ n _ _ _ (jx h2 hn rfl) (.cons _ _ m _ _ _ (jx h3 hm rfl) .nil)))
      (.cons .str _ s _ _ _ (jx h4 hs rfl) (.cons _ _ l _ _ _ (jx h5 hl rfl) .nil)))
    ·cases he
   ·cases he
theorem yD{τ:Ty}{d:D}{v:Value}{x:den τ}(h:RD κ d v)(hx:gX τ d=some x):RD κ (.zx τ x) v:=by
 have key:(∀ σ y,d≠.zx σ y)->(bif (d.isAgg==τ.isAgg) && !d.vS then(match uq τ (zR d)with | some (x,[])=>some x | _=>none)else none)=some x->RD κ (.zx τ x) v:=by
  intro hni hx
  cases hc:(d.isAgg==τ.isAgg) && !d.vS with
  | false=>grind
  | true =>
  rw[hc]at hx
  simp at hc
  obtain⟨R4,VU⟩:=hc
  split at hx
  ·rename_i y hy
   cases hx
   obtain⟨c1,c2,he,h1,h2⟩:=iR τ (uj h VU) hy
   have e2:=h2.zN
   subst e2
   rw[List.append_nil]at he
   have hv:v=pk τ c1:=by
    rw[<- he]
    cases hd:d.isAgg with
    | true =>
     cases d<;>simp[D.isAgg]at hd
     cases h with | agg l vs hl ho h=>simp[pk,D.isAgg]at R4 ⊢; simp[<- R4,Value.cells]
    | false =>
     simp only[pk,<- R4]
     cases h<;>first | rfl | (rw[Zl]; rfl) | (rename_i hu; rw[X6 hu]; rfl) | (rename_i σ y cs hc; exact absurd rfl (hni σ y)) | (simp at hd; done) | (simp at VU; done)
   rw[hv]
   exact .zx τ _ c1 h1
  ·cases hx
 cases d with
 | zx σ y=>obtain⟨rfl,rfl⟩:=zX hx; exact h
 | _=>exact key (λ_ _=>nofun) hx
end
end Go.AM
namespace Go.AM
set_option linter.unusedSectionVars false
variable [vi]
def qg(P:Program)(s:Sem Next)(κ:KS)(d:Option D)(zl:St):Prop :=
 ∃ (κ':KS) (n:Next) (v:Value),s.run P κ.w=.ok n κ'.w/\(n=.value v\/(n=.skip/\v=undef))/\κ'.st=zl/\Inv κ'/\Ext κ κ'/\∀ d',d=some d'->RD κ' d' v
section
variable {c:Ctx} {κ:KS}
theorem qg.pure{s:Sem Value}{d:D}{v:Value}(hi:Inv κ)(h:s.run c.P κ.w=.ok v κ.w)(hd:RD κ d v):qg c.P (do Pure.pure (.value (<- s))) κ (some d) κ.st :=
 ⟨κ,.value v,v,by simp[h],.inl rfl,rfl,hi,Ext.refl κ,λ_ he=>by grind⟩
theorem qg.val{d:Option D}{v:Value}(hi:Inv κ)(hd:∀ d',d=some d'->RD κ d' v):qg c.P (Pure.pure (.value v)) κ d κ.st :=
 ⟨κ,.value v,v,rfl,.inl rfl,rfl,hi,Ext.refl κ,hd⟩
theorem bj{t n:Nat}(h:bN c t=some n):∃ i,c.P.info? t=some i/\i.size=n:=by
 unfold bN at h
 cases hi:c.P.info? t with
 | none=>grind
 | some i=>grind
theorem run_sizeOf{t n:Nat}(h:bN c t=some n)(w:World):(sizeOf t).run c.P w=.ok n w:=by
 obtain⟨i,h1,h2⟩:=bj h
 simp[sizeOf,typeInfo,h1,h2]
theorem l9{t:Nat}{b:Bool}(h:Jf c t=some b)(w:World):(isAgg t).run c.P w=.ok b w:=by
 unfold Jf at h
 cases hu:c.P.underlying t with
 | none=>grind
 | some d =>
  simp only[isAgg,Sem.run_bind,run_underlying hu]
  cases d<;>simp[hu]at h<;>simp[<- h]
theorem wJ{t:Nat}{τ:Ty}(h:ja c t τ=true):bN c t=some τ.size/\Jf c t=some τ.isAgg:=by
 unfold ja at h
 simp at h
 obtain⟨⟨_,h1⟩,h2⟩:=h
 constructor
 ·split at h1
  ·rename_i n hn; rw[hn,Nat.eq_of_beq_eq_true h1]
  ·cases h1
 ·grind
theorem nh{t:Nat}{τ:Ty}(h:ja c t τ=true):OF τ t:=by
 unfold ja at h
 simp at h
 intro e
 subst e
 exact Nat.eq_of_beq_eq_true h.1.1
omit [vi]in
theorem wY(blk o j:Nat):(⟨blk,o,none⟩:Addr).add j=⟨blk,o+j,none⟩:=by unfold Addr.add; split<;>simp_all
theorem bS{t:Nat}{b:Bool}{n blk o:Nat}{cs:List Value}(ha:Jf c t=some b)(hn:bN c t=some n)(hl:cs.length=n)(h1:b=false->n=1)
  (hc:∀ j v,cs[j]? = some v->κ.w.cell? ⟨blk,o+j,none⟩=some v) :
  (loadVar t ⟨blk,o,none⟩).run c.P κ.w=.ok (if b then .agg cs.toArray else cs.headD undef) κ.w:=by
 simp only[loadVar,Sem.run_bind,l9 ha]
 cases b with
 | true =>
  simp[if_true,run_sizeOf hn]
  rw[<- hl,run_loadCells_list κ.w ⟨blk,o,none⟩ cs (λj v hj=>by rw[wY]; exact hc j v hj)]
  simp
 | false =>
  have:=h1 rfl
  subst this
  match cs,hl with
  | [v],_ =>
   have:=hc 0 v rfl
   simp at this
   simp[this]
theorem EB{t:Nat}{τ:Ty}{x:den τ}{cs:List Value}{blk o:Nat}(ht:ja c t τ=true)(h:Rc κ.w κ.ok τ x cs)
  (hc:∀ j v,cs[j]? = some v->κ.w.cell? ⟨blk,o+j,none⟩=some v):(loadVar t ⟨blk,o,none⟩).run c.P κ.w=.ok (pk τ cs) κ.w:=by
 obtain⟨h1,h2⟩:=wJ ht
 rw[bS (c:=c) h2 h1 h.len (λe=>rQ e) hc]
 rfl
theorem wo{t:T (Option D)}{st zl:St}{d:Option D}:(zr (.val t) st).leads (d,zl)↔t.leads d/\zl=st:=by
 simp only[zr,T.zp,T.leads]
 grind
theorem ct{k:St->T (Option D)}{st zl:St}{d:Option D}:(zr (.rd k) st).leads (d,zl)↔(k st).leads d/\zl=st:=by
 simp only[zr,T.zp,T.leads]
 grind
theorem ze{st:St}{r:Option D×St}:¬ (zr bad st).leads r:=by nofun
theorem uT{x:D}{st zl:St}{d:Option D}:(zr (AM.val x) st).leads (d,zl)↔d=some x/\zl=st:=by
 rw[AM.val,wo]; simp only[T.leads]; exact⟨λh=>⟨h.1.symm,h.2⟩,λh=>⟨h.1.symm,h.2⟩⟩
theorem wK{p:Prop}{x:D}{st zl:St}{d:Option D}:(zr (.val (.zC p (.ret (some x)))) st).leads (d,zl)↔p/\d=some x/\zl=st:=by
 rw[wo]; simp only[T.leads]
 grind
theorem th{x:Option D}{st zl:St}{d:Option D}(h:(zr (Od x) st).leads (d,zl)):∃ y,x=some y/\d=some y/\zl=st:=by
 cases x with
 | none=>exact absurd h ze
 | some y=>rw[Od,wo]at h; exact⟨y,rfl,h.1.symm,h.2⟩
theorem sk:∀ (τ:Ty) (x:den τ) {cs:List Value},qj κ (flat τ x) cs->Rc κ.w κ.ok τ x cs
 | .int k,x,cs,h=>by obtain⟨v,r,rfl,h1,h2⟩:=h.cons_inv; rw[h2.zN]; exact h1.wF rfl
 | .bool,x,cs,h=>by obtain⟨v,r,rfl,h1,h2⟩:=h.cons_inv; rw[h2.zN]; exact h1.wF rfl
 | .str,x,cs,h=>by obtain⟨v,r,rfl,h1,h2⟩:=h.cons_inv; rw[h2.zN]; exact h1.wF rfl
 | .sl e,x,cs,h=>by obtain⟨v,r,rfl,h1,h2⟩:=h.cons_inv; rw[h2.zN]; exact h1.wF rfl
 | .nil,x,cs,h=>by rw[h.zN]; exact .nil
 | .cons a b,x,cs,h=>by
  obtain⟨c1,c2,rfl,h1,h2⟩:=qj.KZ h
  exact .cons a b x.1 x.2 c1 c2 (sk a x.1 h1) (sk b x.2 h2)
 | .expr,.mk k (a,n,m,()) s l,cs,h=>by
  obtain⟨v,u,rfl,h0,t0⟩:=h.cons_inv
  obtain⟨v1,u1,rfl,h1,t1⟩:=t0.cons_inv
  obtain⟨v2,u2,rfl,h2,t2⟩:=t1.cons_inv
  obtain⟨v3,u3,rfl,h3,t3⟩:=t2.cons_inv
  obtain⟨v4,u4,rfl,h4,t4⟩:=t3.cons_inv
  obtain⟨v5,u5,rfl,h5,t5⟩:=t4.cons_inv
  rw[t5.zN]
  exact .expr _ _ _ _ _ (.cons i64 _ k _ _ _ (h0.wF rfl) (.cons X1 _ (a,n,m,()) _ _ _ (.cons .bool _ a _ _ _ (h1.wF rfl) (.cons (.sl u32) (.cons (.sl u32) .nil) n (m,()) [v2] ([v3]++[]) (h2.wF rfl) (.cons (.sl u32) .nil m () [v3] [] (h3.wF rfl) .nil)))
      (.cons .str _ s _ _ _ (h4.wF rfl) (.cons (.sl .expr) .nil l () [v5] [] (h5.wF rfl) .nil))))
theorem GV{t:Nat}{d r:D}{off:Nat}{vs:List Value}(h:Y3 c t d off=some r)(hd:qj κ (zR d) vs)(fQ:∀ x∈zR d,x.one=true) :
  (∃ n,Jf c t=some true/\bN c t=some n/\off+n<=vs.length/\RD κ r (.agg ((vs.drop off).take n).toArray)) \/
  (∃ v,Jf c t=some false/\vs[off]? = some v/\RD κ r v):=by
 unfold Y3 at h
 split at h
 ·rename_i ha
  split at h
  ·cases h
  ·rename_i n hn
   refine .inl ⟨n,ha,hn,?_⟩
   cases hb:(Nat.beq off 0&&Nat.beq n (zR d).length&&d.z2B)with
   | true =>
    rw[hb]at h
    simp at h
    subst h
    simp only[Bool.and_eq_true]at hb
    obtain⟨⟨h1,h2⟩,h3⟩:=hb
    have e1:off=0:=Nat.eq_of_beq_eq_true h1
    have e2:n=(zR d).length:=Nat.eq_of_beq_eq_true h2
    subst e1
    have hl:=hd.1
    rw[e2,hl]
    refine⟨by omega,?_⟩
    simp
    cases d with
    | zx τ x =>
     have:=RD.zx τ x vs (sk τ x hd)
     simpa[pk,show τ.isAgg=true from h3]using this
    | agg l=>exact .agg l vs hl fQ hd.2
    | _=>cases h3
   | false =>
    rw[hb]at h
    split at h
    ·rename_i l hl
     cases h
     unfold QT at hl
     cases hle:Nat.ble (off+n) (zR d).length with
     | false=>grind
     | true =>
      rw[hle]at hl
      cases hl
      have Q8:=Nat.le_of_ble_eq_true hle
      refine⟨by rw[<- hd.1]; exact Q8,?_⟩
      have ht:=(hd.drop off).take n
      exact .agg _ _ ht.1 (λx hx=>fQ x (List.mem_of_mem_drop (List.mem_of_mem_take hx))) ht.2
    ·cases h
 ·rename_i ha
  obtain⟨v,h1,h2⟩:=hd.get h
  grind
 ·cases h
theorem Zg{t:Nat}{d r:D}{off blk:Nat}{vs:List Value}(base:Nat)(h:Y3 c t d off=some r)(hd:qj κ (zR d) vs)(fQ:∀ x∈zR d,x.one=true)
  (hc:∀ j v,vs[j]? = some v->κ.w.cell? ⟨blk,base+j,none⟩=some v):∃ v,(loadVar t ⟨blk,base+off,none⟩).run c.P κ.w=.ok v κ.w/\RD κ r v:=by
 rcases GV h hd fQ with⟨n,ha,hn,hle,hr⟩ | ⟨v,ha,hv,hr⟩
 ·refine⟨_,?_,hr⟩
  rw[bS (c:=c) (b:=true) (cs:=(vs.drop off).take n) ha hn (by grind) nofun]
  ·simp
  ·grind
 ·refine⟨v,?_,hr⟩
  simp only[loadVar,Sem.run_bind,l9 ha]
  simp[hc off v hv]
theorem Inv.IH{κ:KS}(hi:Inv κ){b:Nat}{x:jn}(h:κ.st[b]? = some x):gT κ b x:=hi.blk b x h
theorem l8{blk:Nat}{cs:Array Value}{t:TypeId}{fz:Nat×Nat}(h:κ.w.heap[blk]? = some (.cells cs t fz))(o:Nat):κ.w.cell? ⟨blk,o,none⟩=cs[o]? := by
 simp[World.cell?,h]
theorem CR{t:Nat}{x:Option D}{v:Value}{d:Option D}{zl:St}(hi:Inv κ)(hx:∀ y,x=some y->RD κ y v)(h:(zr (Zi c t x) κ.st).leads (d,zl)) :
  qg c.P (do Pure.pure (.value (<- Instr.loadAt t v))) κ d zl:=by
 unfold Zi at h
 split at h
 ·rename_i τ y
  cases ht:ja c t τ with
  | false=>rw[ht]at h; exact absurd h ze
  | true =>
   rw[ht,cond_true,uT]at h
   obtain⟨rfl,rfl⟩:=h
   cases hx _ rfl with
   | qA _ _ cs blk off xO hr hc =>
    exact qg.pure hi (by simp[Instr.loadAt,Instr.sureAddr,EB ht hr hc]) (.zx τ y cs hr)
 ·rename_i b off
  rw[ct]at h
  obtain⟨h,rfl⟩:=h
  split at h
  ·rename_i d0 hb
   split at h
   ·rename_i r hr
    cases h
    cases hx _ rfl with
    | ptr _ _ blk n d1 hd hp =>
     obtain⟨cC,n',cs,T,g1,g2,g3,g4,g5⟩:=hi.blk b _ hb
     rw[hp]at g1
     cases g1
     obtain⟨v,h1,h2⟩:=Zg (c:=c) (blk:=blk) 0 hr g4 g5.1 (λj v hj=>by rw[l8 g2]; simpa using hj)
     rw[Nat.zero_add]at h1
     exact qg.pure hi (by simp[Instr.loadAt,Instr.sureAddr,h1]) h2
   ·exact h.elim
  ·exact h.elim
 ·rename_i b qh e idx off
  rw[ct]at h
  obtain⟨h,rfl⟩:=h
  split at h
  ·rename_i uO e' xs hb
   cases he:decide (e'=e)with
   | false=>rw[he]at h; exact h.elim
   | true =>
    rw[he,cond_true]at h
    have Eb:e'=e:=of_decide_eq_true he
    subst Eb
    obtain⟨⟨rfl,qc⟩,h⟩:=h
    split at h
    ·rename_i r hr
     cases h
     cases hx _ rfl with
     | vD _ _ _ _ _ blk o hold hp =>
      obtain⟨n,p1,rfl⟩:=hp xs hb qc
      obtain⟨vV,⟨ZL,_⟩ | ⟨cC,n',cs,T,g1,g2,g3,g4,gr,f,g5⟩⟩:=hi.blk b _ hb
      ·grind
      ·rw[p1]at g1
       cases g1
       have hg:xs.getD idx (zq e')=xs[idx]:=by simp[List.getD,List.getElem?_eq_getElem qc]
       rw[hg]at hr
       obtain⟨k1,k2⟩:=g5 idx qc
       obtain⟨v,h1,h2⟩:=Zg (c:=c) (blk:=blk) (idx*e'.size) hr (fu k1) (bf _ _) (λj v hj=>by rw[l8 g2]; exact k2 j v hj)
       exact qg.pure hi (by simp[Instr.loadAt,Instr.sureAddr,h1]) h2
    ·exact h.elim
  ·exact h.elim
 ·exact absurd h ze
end
end Go.AM
namespace Go.AM
set_option linter.unusedSectionVars false
variable [vi]
section
variable {c:Ctx} {κ:KS}
theorem Wj{s f o n:Nat}(h:sA c s f=some (o,n)):∃ fs fd,c.P.underlying s=some (.struct fs)/\fs[f]? = some fd/\bN c fd.type=some n/\n≠0/\fd.offset=o:=by
 unfold sA at h
 split at h
 ·rename_i fs hu
  split at h
  ·rename_i fd hf
   split at h
   ·rename_i m hm
    cases hb:Nat.beq m 0 with
    | true=>grind
    | false =>
     rw[hb]at h
     cases h
     refine⟨fs,fd,hu,hf,hm,?_,rfl⟩
     intro e
     subst e
     cases hb
   ·cases h
  ·cases h
 ·cases h
theorem fp{s f o n blk p:Nat}(h:sA c s f=some (o,n))(w:World) :
  (Instr.fieldAt s (.pointer (some ⟨blk,p,none⟩)) f).run c.P w=.ok (.pointer (some ⟨blk,p+o,none⟩)) w:=by
 obtain⟨fs,fd,h1,h2,h3,h4,h5⟩:=Wj h
 simp[Instr.fieldAt,run_underlying h1,h2,Instr.sureAddr,fieldPlace,run_sizeOf h3,h4,wY]
theorem Za:∀ (τ:Ty) (x:den τ) (n:Nat) {d:D} {o s:Nat} {cs:List Value},iC τ x n=some (d,o,s)->Rc κ.w κ.ok τ x cs ->
  ∃ (σ:Ty) (y:den σ) (c2:List Value),d=.qA σ y/\Rc κ.w κ.ok σ y c2/\s=σ.size/\∀ j v,c2[j]? = some v->cs[o+j]? = some v
 | .cons a b,x,0,d,o,s,cs,h,hr=>by
  simp only[iC]at h
  cases h
  obtain⟨c1,c2,rfl,h1,h2⟩:=hr.cons_inv
  grind
 | .cons a b,x,n+1,d,o,s,cs,h,hr=>by
  simp only[iC]at h
  split at h
  ·rename_i d' o' s' h'
   cases h
   obtain⟨c1,c2,rfl,h1,h2⟩:=hr.cons_inv
   obtain⟨σ,y,c3,e1,e2,e3,e4⟩:=Za b x.2 n h' h2
   refine⟨σ,y,c3,e1,e2,e3,λj v hj => ?_⟩
   have:=h1.len
   grind
  ·cases h
 | .expr,.mk k (a,n,m,()) s l,i,d,o,z,cs,h,hr=>by
  obtain⟨c1,r1,rfl,h1,t1⟩:=hr.Ja.cons_inv
  obtain⟨c2,r2,rfl,h2,t2⟩:=t1.cons_inv
  obtain⟨c3,r3,rfl,h3,t3⟩:=t2.cons_inv
  obtain⟨c4,r4,rfl,h4,t4⟩:=t3.cons_inv
  have e4:=t4.zN
  subst e4
  have l2:c2.length=3:=h2.len
  obtain⟨v1,rfl⟩:=h1.single rfl
  obtain⟨v3,rfl⟩:=h3.single rfl
  obtain⟨v4,rfl⟩:=h4.single rfl
  match i,h with
  | 0,h=>simp only[iC]at h; cases h; exact⟨i64,_,_,rfl,h1,rfl,λj v hj=>by match j,hj with | 0,hj=>simpa using hj⟩
  | 1,h => 
   simp only[iC]at h; cases h
   refine⟨X1,_,_,rfl,h2,rfl,λj v hj => ?_⟩
   grind
  | 2,h =>
   simp only[iC]at h; cases h
   refine⟨.str,_,_,rfl,h3,rfl,λj v hj => ?_⟩
   grind
  | 3,h =>
   simp only[iC]at h; cases h
   refine⟨.sl .expr,_,_,rfl,h4,rfl,λj v hj => ?_⟩
   match j,hj with
   | 0,hj =>
    simp only[List.cons_append,List.nil_append,Nat.add_zero,List.getElem?_cons_succ]
    rw[List.getElem?_append_right (by omega),l2]; simpa using hj
  | n+4,h=>simp[iC]at h
 | .int _,_,_,_,_,_,_,h,_ | .bool,_,_,_,_,_,_,h,_ | .str,_,_,_,_,_,_,h,_ | .sl _,_,_,_,_,_,_,h,_ | .nil,_,_,_,_,_,_,h,_=>by simp[iC]at h
theorem tZ{s f:Nat}{x:Option D}{v:Value}{d:Option D}{zl:St}(hi:Inv κ)(hx:∀ y,x=some y->RD κ y v)(h:(zr (fH c s f x) κ.st).leads (d,zl)) :
  qg c.P (do Pure.pure (.value (<- Instr.fieldAt s v f))) κ d zl:=by
 unfold fH at h
 split at h
 ·exact absurd h ze
 ·rename_i o n hf
  split at h
  ·rename_i τ y
   split at h
   ·rename_i d' o' n' J1
    cases hb:Nat.beq o o'&&Nat.beq n n' with
    | false=>rw[hb]at h; exact absurd h ze
    | true =>
     rw[hb,cond_true,uT]at h
     obtain⟨rfl,rfl⟩:=h
     simp only[Bool.and_eq_true]at hb
     have e1:o=o':=Nat.eq_of_beq_eq_true hb.1
     subst e1
     cases hx _ rfl with
     | qA _ _ cs blk off xO hr hc =>
      obtain⟨σ,z,c2,rfl,g1,g2,g3⟩:=Za τ y f J1 hr
      exact qg.pure hi (fp hf κ.w) (.qA σ z c2 blk (off+o) xO g1 λj u hj=>by grind)
   ·exact absurd h ze
  ·rename_i b off
   obtain⟨rfl,rfl⟩:=h
   cases hx _ rfl with
   | ptr _ _ blk n d hd hp=>exact qg.pure hi (fp hf κ.w) (.ptr b (off+o) blk n d hd hp)
  ·rename_i b qh e idx off
   obtain⟨rfl,rfl⟩:=h
   cases hx _ rfl with
   | vD _ _ _ _ _ blk p hold hp =>
    refine qg.pure hi (fp hf κ.w) (.vD b qh e idx (off+o) blk (p+o) hold λxs h1 h2 => ?_)
    grind
  ·exact absurd h ze
theorem KP{s f:Nat}{x:Option D}{v:Value}{d:Option D}{zl:St}(hi:Inv κ)(hx:∀ y,x=some y->RD κ y v)(h:(zr (Vq c s f x) κ.st).leads (d,zl)) :
  qg c.P (do Pure.pure (.value (<- Instr.field s v f))) κ d zl:=by
 unfold Vq at h
 split at h
 ·rename_i fs hu
  split at h
  ·rename_i fd hf
   split at h
   ·rename_i y
    obtain⟨r,hr,rfl,rfl⟩:=th h
    cases Eo:y.yX with
    | false=>grind
    | true =>
    rw[Eo,cond_true]at hr
    have hy:=hx _ rfl
    have ⟨vs,hv,hvs⟩:∃ vs,v=.agg vs/\qj κ (zR y) vs.toList:=by
     have OO:=uj hy (by cases y<;>simp[D.yX,D.vS]at Eo ⊢)
     cases hy<;>simp[D.yX]at Eo
     ·rename_i τ z cs hc
      exact⟨cs.toArray,by simp[pk,Eo],by simpa[pk,Eo,Value.cells]using OO⟩
     ·rename_i l vs hl ho hh
      exact⟨vs.toArray,rfl,by simpa[Value.cells]using OO⟩
    subst hv
    rcases GV hr hvs (ug hy)with⟨n,ha,hn,hle,hrd⟩ | ⟨u,ha,MJ,hrd⟩
    ·refine qg.pure hi ?_ hrd
     simp only[Instr.field,Sem.run_bind,run_underlying hu,Result.andThen_ok,hf,asAgg,Sem.run_pure,part,l9 ha,if_true,run_sizeOf hn]
     congr 2
     grind
    ·refine qg.pure hi ?_ hrd
     have:vs[fd.offset]? = some u:=by simpa using MJ
     simp[Instr.field,run_underlying hu,hf,asAgg,part,l9 ha,this]
   ·exact absurd h ze
  ·exact absurd h ze
 ·exact absurd h ze
theorem vB{t e:Nat}(h:bO c t=some e):c.P.underlying t=some (.slice e):=by
 unfold bO at h
 grind
theorem vo{x:Option D}{k:IntKind}{n:Int}{v:Value}(h:asInt x=some (k,n))(hx:∀ y,x=some y->RD κ y v):v=.int k n:=by
 unfold asInt at h
 split at h
 ·cases h; exact(hx _ rfl).jJ
 ·cases h
theorem fK{x:Option D}{s:zf}{v:Value}(h:Zw x=some s)(hx:∀ y,x=some y->RD κ y v):v=.string ⟨s.toArray⟩:=by
 unfold Zw at h
 split at h
 ·cases h; exact(hx _ rfl).xM
 ·cases h
theorem iX{x:Option D}{b:Bool}{v:Value}(h:asBool x=some b)(hx:∀ y,x=some y->RD κ y v):v=.bool b:=by
 unfold asBool at h
 split at h
 ·cases h; exact(hx _ rfl).uG
 ·cases h
theorem sz{α:Type}{l:List α}{i:Nat}(h:i<l.length)(d:α):List.getD l i d=l[i]:=by grind
theorem fB{a:Ty}(x:den a):(we x:Option (den a))=some x:=by simp[we]
theorem Jw{w:World}{ok:Nat->Prop}:∀ (τ:Ty) (e:Ty) (n:Nat) (x:den τ) (cs:List Value) (i:Nat),Jh τ=some (e,n)->Rc w ok τ x cs->i<n ->
  ∃ c,Rc w ok e (fO e τ x i) c/\∀ j v,c[j]? = some v->cs[i*e.size+j]? = some v
 | .cons a b,e,n,x,cs,i,ht,hr,hi=>by
  obtain⟨c1,c2,rfl,h1,h2⟩:=hr.cons_inv
  have key:∀ m,(b=.nil/\m=0\/Jh b=some (a,m))->i<m+1->∃ c,Rc w ok a (fO a (.cons a b) x i) c/\∀ j v,c[j]? = some v->(c1++c2)[i*a.size+j]? = some v:=by
   intro m hm hi
   cases i with
   | zero =>
    refine⟨c1,by simp only[fO,fB]; exact h1,λj v hj => ?_⟩
    grind
   | succ i =>
    rcases hm with⟨rfl,rfl⟩ | hm
    ·omega
    ·obtain⟨c,g1,g2⟩:=Jw b a m x.2 c2 i hm h2 (by omega)
     refine⟨c,g1,λj v hj => ?_⟩
     have hl:=h1.len
     grind
  unfold Jh at ht
  split at ht
  ·cases ht; exact key 0 (.inl ⟨rfl,rfl⟩) (by omega)
  ·grind
 | .int _,_,_,_,_,_,ht,_,_=>by cases ht
 | .bool,_,_,_,_,_,ht,_,_=>by cases ht
 | .str,_,_,_,_,_,ht,_,_=>by cases ht
 | .sl _,_,_,_,_,_,ht,_,_=>by cases ht
 | .nil,_,_,_,_,_,ht,_,_=>by cases ht
 | .expr,_,_,_,_,_,ht,_,_=>by cases ht
theorem CO{t n e:Nat}(h:R1 c t=some (n,e)):c.P.underlying t=some (.array n e):=by
 unfold R1 at h
 grind
theorem Qe{t:Nat}{x i:Option D}{k:IntKind}{n:Int}{v u:Value}{d:Option D}{zl:St}(hi:Inv κ)(hx:∀ y,x=some y->RD κ y v)(hy:∀ y,i=some y->RD κ y u)(tb:asInt i=some (k,n))
  (h:(zr (tr c t x n) κ.st).leads (d,zl)):qg c.P (do Pure.pure (.value (<- Instr.indexAt t v u))) κ d zl:=by
 have MJ:=vo tb hy
 subst MJ
 unfold tr at h
 split at h
 ·rename_i m et τ y ha
  have hu:=CO ha
  split at h
  ·rename_i e m' Gi
   cases ht:ja c et e&&Nat.beq m m' with
   | false=>rw[ht]at h; exact absurd h ze
   | true =>
    rw[ht,cond_true,wK]at h
    simp only[Bool.and_eq_true]at ht
    have:=Nat.eq_of_beq_eq_true ht.2
    subst this
    obtain⟨⟨h0,h1⟩,rfl,rfl⟩:=h
    obtain⟨hs,_⟩:=wJ ht.1
    cases hx _ rfl with
    | qA _ _ cs blk off xO K1 hc =>
     obtain⟨cc,g1,g2⟩:=Jw τ e m y cs n.toNat Gi K1 (by omega)
     refine qg.pure hi ?_ (.qA e _ cc blk (off+n.toNat*e.size) xO g1 λj v hj=>by grind)
     simp[Instr.indexAt,asIntOf,run_underlying hu,h0,h1,run_sizeOf hs,wY,Instr.sureAddr]
  ·exact absurd h ze
 ·exact absurd h ze
theorem Zr{t:Nat}{x i:Option D}{v u:Value}{d:Option D}{zl:St}(hi:Inv κ)(hx:∀ y,x=some y->RD κ y v)(hy:∀ y,i=some y->RD κ y u)
  (h:(zr (fA c t x i) κ.st).leads (d,zl)):qg c.P (do Pure.pure (.value (<- Instr.indexAt t v u))) κ d zl:=by
 unfold fA at h
 split at h
 ·rename_i k n het tb
  exact Qe hi hx hy tb h
 ·rename_i et k n het tb
  have hu:=vB het
  have MJ:=vo tb hy
  subst MJ
  split at h
  ·rename_i e l
   cases ht:ja c et e with
   | false=>rw[ht]at h; exact absurd h ze
   | true =>
    rw[ht,cond_true,wK]at h
    obtain⟨⟨h0,h1⟩,rfl,rfl⟩:=h
    obtain⟨hs,_⟩:=wJ ht
    have qc:n.toNat<List.length l:=by omega
    rcases((hx _ rfl).wF rfl).p7 with⟨rfl,_⟩ | ⟨blk,off,cap,f,he,xO,wD,hh,hc⟩
    ·cases qc
    ·cases he
     rw[sz qc]
     refine qg.pure hi ?_ (.qA e _ (f n.toNat) blk (off+n.toNat*e.size) xO (hh _ qc) λj v hj=>hc _ qc j v hj)
     simp[Instr.indexAt,asIntOf,run_underlying hu,h0,h1,run_sizeOf hs,wY]
  ·rename_i e l ne
   cases ht:ja c et e with
   | false=>rw[ht]at h; exact absurd h ze
   | true =>
    rw[ht,cond_true,wK]at h
    obtain⟨⟨h0,h1⟩,rfl,rfl⟩:=h
    obtain⟨hs,_⟩:=wJ ht
    have qc:n.toNat<List.length l:=by omega
    cases hx _ rfl with
    | qL=>cases qc
    | tight _ _ _ blk off f vP xO hh hc =>
     rw[sz qc]
     refine qg.pure hi ?_ (.qA e _ (f n.toNat) blk (off+n.toNat*e.size) xO (hh _ qc) λj v hj=>hc _ qc j v hj)
     simp[Instr.indexAt,asIntOf,run_underlying hu,h0,h1,run_sizeOf hs,wY]
  ·rename_i b qh e off len
   cases ht:ja c et e with
   | false=>rw[ht]at h; exact absurd h ze
   | true =>
    rw[ht,cond_true,wK]at h
    obtain⟨⟨h0,h1⟩,rfl,rfl⟩:=h
    obtain⟨hs,_⟩:=wJ ht
    cases hx _ rfl with
    | ms _ _ _ _ _ cap a hold wD ha fI hm =>
     cases a with
     | none=>grind
     | some p =>
      have hp:=fI p rfl
      obtain⟨blk,o,sp⟩:=p
      subst hp
      refine qg.pure hi (v:=.pointer (some ⟨blk,o+n.toNat*e.size,none⟩)) ?_ (.vD b qh e (off+n.toNat) 0 blk _ hold λxs hb qc => ?_)
      ·simp[Instr.indexAt,asIntOf,run_underlying hu,h0,h1,run_sizeOf hs,wY]
      ·obtain⟨hle,⟨_,_,hv,_⟩ | ⟨cC,n',o',Kf,h3,h4,h5,h6,h7⟩⟩:=hm xs hb
       ·cases hv
       ·grind
  ·exact absurd h ze
 ·exact absurd h ze
theorem CC(s:zf){i:Nat}(h:i<s.length):(⟨s.toArray⟩:ByteArray)[i]? = some s[i]:=by
 have vV:(⟨s.toArray⟩:ByteArray).size=s.length:=rfl
 rw[getElem?_pos _ _ (by grind)]
 rfl
theorem KW{t:Nat}{x i:Option D}{v u:Value}{d:Option D}{zl:St}(hi:Inv κ)(hx:∀ y,x=some y->RD κ y v)(hy:∀ y,i=some y->RD κ y u)
  (h:(zr (WU c t x i) κ.st).leads (d,zl)):qg c.P (do Pure.pure (.value (<- Instr.index t v u))) κ d zl:=by
 unfold WU at h
 split at h
 ·rename_i k n s tb hs hu
  have MJ:=vo tb hy
  subst MJ
  have hv:=fK hs hx
  subst hv
  obtain⟨⟨h0,h1⟩,rfl,rfl⟩:=h
  have qc:n.toNat<s.length:=by omega
  rw[sz qc]
  exact qg.pure hi (by simp[Instr.index,asIntOf,run_underlying hu,h0,CC s qc]) RD.int
 ·exact absurd h ze
def rN(κ:KS):Option (Option D)->Option Value->Prop
 | none,none=>True
 | some x,some v=>∀ y,x=some y->RD κ y v
 | _,_=>False
theorem ZR{d n:Int}{x:Option (Option D)}{v:Option Value}(h:D8 d x=some n)(hx:rN κ x v):(x=none/\v=none/\n=d)\/(x.isSome/\∃ k,v=some (.int k n)):=by
 cases x with
 | none=>cases v with
  | none=>exact .inl ⟨rfl,rfl,by simpa[D8]using h.symm⟩
  | some v=>exact hx.elim
 | some x=>cases v with
  | none=>exact hx.elim
  | some v =>
   simp only[D8]at h
   split at h
   ·rename_i k i hk; cases h; exact .inr ⟨rfl,k,by rw[vo hk hx]⟩
   ·cases h
end
end Go.AM
namespace Go.AM
set_option linter.unusedSectionVars false
variable [vi]
section
variable {c:Ctx} {κ:KS}
theorem uU{P:Program}{isS:Bool}{len cap:Nat}{lo hi mx:Option Value}{l h:Int}{m:Nat}
  (hl:(lo=none/\l=0)\/∃ k,lo=some (.int k l)) (hh:(hi=none/\mx=none/\h=len)\/∃ k,hi=some (.int k h))
  (hm:(mx=none/\m=cap)\/∃ k,mx=some (.int k m)) (h0:0<=l) (h1:l<=h) (h2:h<=m) (h3:m<=cap) (w:World) :
  (Instr.sliceBounds isS len cap lo hi mx).run P w=.ok (l.toNat,h.toNat,m) w:=by
 have hh0:(0:Int)<=h:=by omega
 have rX:l<=(h.toNat:Int):=by omega
 rcases hl with⟨rfl,rfl⟩ | ⟨k1,rfl⟩<;>rcases hm with⟨rfl,rfl⟩ | ⟨k3,rfl⟩<;>rcases hh with⟨rfl,hx,rfl⟩ | ⟨k2,rfl⟩ <;>
  first
   | (cases hx; done)
   | (simp[Instr.sliceBounds,run_sliceBound, *]; done)
   | (simp[Instr.sliceBounds,run_sliceBound, *]; rw[run_sliceBound _ _ _ _ _ h0 rX]; rfl)
theorem JZ(s:zf)(l h:Int):(⟨s.toArray⟩:ByteArray).extract l.toNat h.toNat=⟨(um l h s).toArray⟩:=by
 apply ByteArray.ext
 simp[um,List.drop_take]
theorem Z4{n:Int}{x:Option (Option D)}{v:Option Value}(h:D8 0 x=some n)(hx:rN κ x v):(v=none/\n=0)\/∃ k,v=some (.int k n):=by
 rcases ZR h hx with⟨_,h1,h2⟩ | ⟨_,h1⟩
 ·grind
 ·grind
theorem WM{d n:Int}{x:Option (Option D)}{v:Option Value}(h:D8 d x=some n)(hx:rN κ x v):(v=none/\n=d)\/∃ k,v=some (.int k n):=by
 rcases ZR h hx with⟨_,h1,h2⟩ | ⟨_,h1⟩
 ·grind
 ·grind
theorem nB{v:Option Value}(h:rN κ none v):v=none:=by cases v with | none=>rfl | some _=>exact h.elim
theorem iL{e:Ty}{l:List (den e)}{lo hi:Int}(h0:0<=lo)(h1:lo<=hi)(h2:hi<=(l.length:Int)) :
  (vQ lo hi l).length=hi.toNat-lo.toNat/\∀ i (UY:i<(vQ lo hi l).length),∃ h:lo.toNat+i<l.length,(vQ lo hi l)[i]=l[lo.toNat+i]:=by
 have hlen:(vQ lo hi l).length=hi.toNat-lo.toNat:=by simp[vQ]; omega
 refine⟨hlen,λi UY=>⟨by omega,?_⟩⟩
 simp[vQ]
theorem Km{e:Ty}{l:List (den e)}{lo hi:Int}{blk off cap m:Nat}{f:Nat->List Value}(xO:κ.ok blk)
  (hh:∀ i (hi:i<l.length),Rc κ.w κ.ok e l[i] (f i)) (hc:∀ i,i<l.length->∀ j v,(f i)[j]? = some v->κ.w.cell? ⟨blk,off+i*e.size+j,none⟩=some v)
  (h0:0<=lo) (h1:lo<=hi) (h2:hi<=(l.length:Int)) (hm:hi<=(m:Int)) (wD:m<=cap) :
  (∀ i (UY:i<(vQ lo hi l).length),Rc κ.w κ.ok e (vQ lo hi l)[i] (f (lo.toNat+i))) /\
  (∀ i,i<(vQ lo hi l).length->∀ j v,(f (lo.toNat+i))[j]? = some v ->
   κ.w.cell? ⟨blk,(if m=lo.toNat then off else off+lo.toNat*e.size)+i*e.size+j,none⟩=some v)/\(vQ lo hi l).length<=m-lo.toNat:=by
 obtain⟨hl,hg⟩:=iL h0 h1 h2
 refine⟨λi UY => ?_,λi UY j v hj => ?_,by omega⟩
 ·obtain⟨h3,h4⟩:=hg i UY
  rw[h4]; exact hh _ h3
 ·obtain⟨h3,h4⟩:=hg i UY
  have:=hc _ h3 j v hj
  rw[if_neg (by omega)]
  rw[Nat.add_mul,<- Nat.add_assoc]at this
  exact this
theorem KE{t:Nat}{x:Option D}{lo hi mx:Option (Option D)}{v:Value}{vl vh vm:Option Value}{d:Option D}{zl:St}(hI:Inv κ)(hx:∀ y,x=some y->RD κ y v)
  (PX:rN κ lo vl) (Rt:rN κ hi vh) (SO:rN κ mx vm)
  (h:(zr (V0 c t x lo hi mx) κ.st).leads (d,zl)):qg c.P (do Pure.pure (.value (<- Instr.sliceAt t v vl vh vm))) κ d zl:=by
 unfold V0 at h
 split at h
 ·rename_i s
  obtain⟨s,rfl⟩:∃ s':zf,s=s':=⟨s,rfl⟩
  split at h
  ·rename_i l hh hu hl hh'
   rw[wK]at h
   obtain⟨⟨h0,h1,h2⟩,rfl,rfl⟩:=h
   have hv:=(hx _ rfl).xM
   subst hv
   have e1:=nB SO
   subst e1
   refine qg.pure hI ?_ RD.str
   have vV:(⟨s.toArray⟩:ByteArray).size=s.length:=rfl
   have hb:=uU (P:=c.P) (isS:=false) (len:=s.length) (cap:=s.length) (mx:=none) (m:=s.length) (Z4 hl PX)
    (hJ (WM hh' Rt) (λh=>⟨h.1,rfl,h.2⟩) id) (.inl ⟨rfl,rfl⟩) h0 h1 h2 (Nat.le_refl _) κ.w
   simp only[Instr.sliceAt,Sem.run_bind,run_underlying hu,Result.andThen_ok,Instr.slice,Option.isSome_none,Bool.false_eq_true,if_false,vV,hb,JZ]
   rfl
  ·exact absurd h ze
 ·rename_i e s
  split at h
  ·rename_i et l hh het hl hh'
   have hu:=vB het
   cases ht:ja c et e with
   | false=>rw[ht]at h; exact absurd h ze
   | true =>
    obtain⟨hs,_⟩:=wJ ht
    rw[ht,cond_true]at h
    split at h
    ·rw[wK]at h
     obtain⟨⟨h0,h1,h2⟩,rfl,rfl⟩:=h
     have e1:=nB SO
     subst e1
     have Qc:=Z4 hl PX
     have Qi:(vh=none/\(none:Option Value)=none/\hh=(s.length:Int))\/∃ k,vh=some (.int k hh):=hJ (WM hh' Rt) (λh=>⟨h.1,rfl,h.2⟩) id
     rcases((hx _ rfl).wF rfl).p7 with⟨rfl,a0,he⟩ | ⟨blk,off,cap,f,he,xO,wD,CD,I9⟩
     ·cases he
      simp only[List.length_nil,Int.cast_ofNat_Int]at h2
      have hb:=uU (P:=c.P) (isS:=true) (len:=0) (cap:=0) (mx:=none) (m:=0) Qc Qi (.inl ⟨rfl,rfl⟩) h0 h1 h2 (Nat.le_refl _) κ.w
      have e0:l=0:=by omega
      have e2:hh=0:=by omega
      subst e0 e2
      refine qg.pure hI (v:=.slice a0 0 0) ?_ (.dN rfl (.bI e a0))
      simp[Instr.sliceAt,run_underlying hu,Instr.slice,hb,run_sizeOf hs]
     ·cases he
      obtain⟨k1,k2,k3⟩:=Km (lo:=l) (hi:=hh) (cap:=cap) (m:=cap) xO CD I9 h0 h1 h2 (by omega) (Nat.le_refl _)
      have hb:=uU (P:=c.P) (isS:=true) (len:=s.length) (cap:=cap) (mx:=none) (m:=cap) Qc Qi (.inl ⟨rfl,rfl⟩) h0 h1 (by omega) (Nat.le_refl _) κ.w
      have hlen:=(iL h0 h1 h2).1
      refine qg.pure hI ?_ (.dN rfl (.sl e (vQ l hh s) blk _ (cap-l.toNat) _ xO k3 k1 k2))
      simp only[Instr.sliceAt,Sem.run_bind,run_underlying hu,Result.andThen_ok,Instr.slice,hb,run_sizeOf hs,Sem.run_pure,hlen]
      congr 3
      split<;>simp[wY]
    ·split at h
     ·rename_i mx m km mi hm'
      cases hhs:hi.isSome with
      | false=>rw[hhs]at h; exact absurd h ze
      | true =>
      rw[hhs,cond_true,wK]at h
      obtain⟨⟨h0,h1,rfl,h2⟩,rfl,rfl⟩:=h
      obtain⟨vm,rfl⟩:∃ u,vm=some u:=by cases vm with | none=>exact SO.elim | some u=>exact⟨u,rfl⟩
      have hvm:=vo hm' SO
      subst hvm
      have Qc:=Z4 hl PX
      have Qi:(vh=none/\(some (Value.int km hh):Option Value)=none/\hh=(s.length:Int))\/∃ k,vh=some (.int k hh):=by
       rcases ZR hh' Rt with⟨g1,_⟩ | ⟨_,g⟩
       ·rw[g1]at hhs; cases hhs
       ·exact .inr g
      have em:((hh.toNat:Nat):Int)=hh:=by omega
      rcases((hx _ rfl).wF rfl).p7 with⟨rfl,a0,he⟩ | ⟨blk,off,cap,f,he,xO,wD,CD,I9⟩
      ·cases he
       simp only[List.length_nil,Int.cast_ofNat_Int]at h2
       have hb:=uU (P:=c.P) (isS:=true) (len:=0) (cap:=0) (mx:=some (.int km hh)) (m:=hh.toNat) Qc Qi (.inr ⟨km,by rw[em]⟩) h0 h1 (by omega) (by omega) κ.w
       have e0:l=0:=by omega
       have e2:hh=0:=by omega
       subst e0 e2
       refine qg.pure hI (v:=.slice a0 0 0) ?_ (.qL e a0)
       simp[Instr.sliceAt,run_underlying hu,Instr.slice,hb,run_sizeOf hs]
      ·cases he
       obtain⟨k1,k2,k3⟩:=Km (lo:=l) (hi:=hh) (cap:=cap) (m:=hh.toNat) xO CD I9 h0 h1 h2 (by omega) (by omega)
       have hb:=uU (P:=c.P) (isS:=true) (len:=s.length) (cap:=cap) (mx:=some (.int km hh)) (m:=hh.toNat) Qc Qi (.inr ⟨km,by rw[em]⟩) h0 h1 (by omega) (by omega) κ.w
       have hlen:=(iL h0 h1 h2).1
       refine qg.pure hI ?_ (.tight e (vQ l hh s) false blk _ _ nofun xO k1 k2)
       simp only[Instr.sliceAt,Sem.run_bind,run_underlying hu,Result.andThen_ok,Instr.slice,hb,run_sizeOf hs,Sem.run_pure,hlen]
       congr 3
       split<;>simp[wY]
     ·exact absurd h ze
  ·exact absurd h ze
 ·rename_i e s ne
  split at h
  ·rename_i et l hh het hl hh'
   have hu:=vB het
   cases ht:ja c et e with
   | false=>rw[ht]at h; exact absurd h ze
   | true =>
    obtain⟨hs,_⟩:=wJ ht
    rw[ht,cond_true,wK]at h
    obtain⟨⟨h0,h1,h2⟩,rfl,rfl⟩:=h
    have e1:=nB SO
    subst e1
    have Qc:=Z4 hl PX
    have Qi:(vh=none/\(none:Option Value)=none/\hh=(s.length:Int))\/∃ k,vh=some (.int k hh):=hJ (WM hh' Rt) (λh=>⟨h.1,rfl,h.2⟩) id
    cases hx _ rfl with
    | qL _ a0 =>
     simp only[List.length_nil,Int.cast_ofNat_Int]at h2
     have hb:=uU (P:=c.P) (isS:=true) (len:=0) (cap:=0) (mx:=none) (m:=0) Qc Qi (.inl ⟨rfl,rfl⟩) h0 h1 h2 (Nat.le_refl _) κ.w
     have e0:l=0:=by omega
     have e2:hh=0:=by omega
     subst e0 e2
     refine qg.pure hI (v:=.slice a0 0 0) ?_ (.dN rfl (.bI e a0))
     simp[Instr.sliceAt,run_underlying hu,Instr.slice,hb,run_sizeOf hs]
    | tight _ _ _ blk off f vP xO CD I9 =>
     obtain⟨k1,k2,k3⟩:=Km (lo:=l) (hi:=hh) (cap:=s.length) (m:=s.length) xO CD I9 h0 h1 h2 (by omega) (Nat.le_refl _)
     have hb:=uU (P:=c.P) (isS:=true) (len:=s.length) (cap:=s.length) (mx:=none) (m:=s.length) Qc Qi (.inl ⟨rfl,rfl⟩) h0 h1 (by omega) (Nat.le_refl _) κ.w
     have hlen:=(iL h0 h1 h2).1
     refine qg.pure hI ?_ (.dN rfl (.sl e (vQ l hh s) blk _ (s.length-l.toNat) _ xO k3 k1 k2))
     simp only[Instr.sliceAt,Sem.run_bind,run_underlying hu,Result.andThen_ok,Instr.slice,hb,run_sizeOf hs,Sem.run_pure,hlen]
     congr 3
     split<;>simp[wY]
  ·exact absurd h ze
 ·rename_i b qh e off len
  split at h
  ·rename_i et l hh het hl hh'
   have hu:=vB het
   cases ht:ja c et e with
   | false=>rw[ht]at h; exact absurd h ze
   | true =>
    obtain⟨hs,_⟩:=wJ ht
    rw[ht,cond_true,wK]at h
    obtain⟨⟨h0,h1,h2⟩,rfl,rfl⟩:=h
    have e1:=nB SO
    subst e1
    have Qc:=Z4 hl PX
    have Qi:(vh=none/\(none:Option Value)=none/\hh=(len:Int))\/∃ k,vh=some (.int k hh):=hJ (WM hh' Rt) (λh=>⟨h.1,rfl,h.2⟩) id
    cases hx _ rfl with
    | ms _ _ _ _ _ cap a hold wD ha fI hm =>
     have hb:=uU (P:=c.P) (isS:=true) (len:=len) (cap:=cap) (mx:=none) (m:=cap) Qc Qi (.inl ⟨rfl,rfl⟩) h0 h1 (by omega) (Nat.le_refl _) κ.w
     refine qg.pure hI (v:=.slice (if cap=l.toNat then a else a.map (·.add (l.toNat*e.size))) (hh.toNat-l.toNat) (cap-l.toNat)) ?_ (.ms b qh e _ _ _ _ hold (by omega) ?_ ?_ ?_)
     ·simp only[Instr.sliceAt,Sem.run_bind,run_underlying hu,Result.andThen_ok,Instr.slice,hb,run_sizeOf hs,Sem.run_pure]
     ·intro hn
      split at hn
      ·have:=ha hn; omega
      ·cases a with | none=>have:=ha rfl; omega | some p=>cases hn
     ·intro p hp
      split at hp
      ·exact fI p hp
      ·cases a with
       | none=>cases hp
       | some q =>
        obtain⟨q1,q2,q3⟩:=q
        have:=fI _ rfl
        simp only at this
        subst this
        simp only[Option.map_some,wY,Option.some.injEq]at hp
        subst hp; rfl
     ·intro xs XI
      obtain⟨hle,⟨rfl,rfl,hv,hp⟩ | ⟨cC,n',o',Kf,h3,h4,h5,h6,h7⟩⟩:=hm xs XI
      ·cases hv
       have e0:l=0:=by omega
       have e2:hh=0:=by omega
       subst e0 e2
       exact⟨by simp,.inl ⟨rfl,rfl,rfl,hp⟩⟩
      ·cases h4
       refine⟨by omega,.inr ?_⟩
       by_cases sx:cap=l.toNat
       ·refine⟨cC,n',o',0,h3,?_,by omega,?_,.inl rfl⟩
        ·simp[sx]
        ·have:(off+l.toNat+0)=off+cap:=by omega
         rw[this]; exact h6
       ·refine⟨cC,n',o'+l.toNat*e.size,cap-l.toNat,h3,?_,by omega,?_,.inr ?_⟩
        ·simp[sx,wY]
        ·have:off+l.toNat+(cap-l.toNat)=off+cap:=by omega
         rw[this]; exact h6
        ·rcases h7 with h7 | h7
         ·omega
         ·rw[h7,Nat.add_mul]
  ·exact absurd h ze
 ·exact absurd h ze
end
end Go.AM
namespace Go.AM
set_option linter.unusedSectionVars false
variable [vi]
section
variable {c:Ctx} {κ:KS}
theorem eW(op:BinOp)(t:Nat)(x y:Operand)(k k':IntKind)(a b:Int)(P:Program)(w:World):(eqGuard op t x y (.int k a) (.int k' b)).run P w=.ok () w:=by
 unfold eqGuard; split<;>simp
theorem Ub(op:BinOp)(t:Nat)(x y:Operand)(a b:ByteArray)(P:Program)(w:World):(eqGuard op t x y (.string a) (.string b)).run P w=.ok () w:=by
 unfold eqGuard; split<;>simp
theorem Wu(op:BinOp)(t:Nat)(x y:Operand)(a b:Bool)(P:Program)(w:World):(eqGuard op t x y (.bool a) (.bool b)).run P w=.ok () w:=by
 unfold eqGuard; split<;>simp
theorem cA{k:IntKind}{n:Int}{st zl:St}{d:Option D}:(zr (ib k n) st).leads (d,zl)↔d=some (.zx (.int k) n)/\zl=st:=uT
theorem fD{b:Bool}{st zl:St}{d:Option D}:(zr (bb b) st).leads (d,zl)↔d=some (.zx .bool b)/\zl=st:=uT
theorem KF{op:BinOp}{k:IntKind}{a b:Int}{d:Option D}{st zl:St}{t:Nat}(h:(zr (KL op k a b) st).leads (d,zl))(hs:sq op=false) :
  ∃ y v,d=some y/\zl=st/\(binOp op t (.int k a) (.int k b)).run c.P κ.w=.ok v κ.w/\RD κ y v:=by
 cases op<;>simp only[KL]at h<;>try (exact absurd h ze)
 all_goals first
  | (rw[cA]at h; obtain⟨rfl,rfl⟩:=h; exact⟨_,_,rfl,rfl,by simp[binOp,Op.intArith,Op.intBits,iB],RD.int⟩)
  | (rw[fD]at h; obtain⟨rfl,rfl⟩:=h; exact⟨_,_,rfl,rfl,by simp[binOp,Op.intCmp],RD.bool⟩)
  | (rw[wK]at h; obtain⟨hb,rfl,rfl⟩:=h; exact⟨_,_,rfl,rfl,by simp[binOp,Op.intDiv,hb],RD.int⟩)
theorem Z5(s:zf):(⟨s.toArray⟩:ByteArray).toList=s:=by simp
theorem YA{op:BinOp}{a b:zf}{d:Option D}{st zl:St}{t:Nat}(h:(zr (Kl op a b) st).leads (d,zl))(hs:sq op=false) :
  ∃ y v,d=some y/\zl=st/\(binOp op t (.string ⟨a.toArray⟩) (.string ⟨b.toArray⟩)).run c.P κ.w=.ok v κ.w/\RD κ y v:=by
 have vV:∀ s:zf,(⟨s.toArray⟩:ByteArray).size=s.length:=λ_=>rfl
 cases op<;>simp only[Kl]at h<;>try (exact absurd h ze)
 case add =>
  rw[wK]at h; obtain⟨hb,rfl,rfl⟩:=h
  refine⟨_,_,rfl,rfl,?_,RD.str⟩
  have e:(⟨a.toArray⟩++⟨b.toArray⟩:ByteArray)=⟨(cat a b).toArray⟩:=by
   rfl
  have hn:¬ (IntKind.i64.max<((a.length+b.length:Nat):Int)):=by
   have:IntKind.i64.max=9223372036854775807:=by decide
   omega
  simp only[binOp,Op.stringOp,vV,hn]
  rfl
 all_goals (rw[fD]at h; obtain⟨rfl,rfl⟩:=h; exact⟨_,_,rfl,rfl,by simp[binOp,Op.stringOp,zk,strLt],RD.bool⟩)
theorem Yj{P:Program}{t:Nat}(hu:P.underlying t=some .bool)(a b:Bool)(w:World):(Op.equal t (.bool a) (.bool b)).run P w=.ok (a==b) w:=by
 show(Op.equalIn (9999+1) t _ _).run P w=_
 rw[Op.equalIn]
 simp[run_underlying hu]
theorem YX{a:Ty}{t:Nat}(h:Ng c a t=true):(∃ k,a=.int k/\c.P.underlying t=some (.int k))\/(a=.bool/\c.P.underlying t=some .bool)\/(a=.str/\c.P.underlying t=some .string):=by
 unfold Ng at h
 grind
theorem Y1{P:Program}{t:Nat}{u:TypeDesc}(h:P.underlying t=some u)(hn:(match u with | .struct _ | .array _ _=>true | _=>false)=false)(w:World):(isAgg t).run P w=.ok false w:=by
 simp only[isAgg,Sem.run_bind,run_underlying h]
 cases u<;>first | rfl | cases hn
theorem yt{P:Program}{t:Nat}{u:TypeDesc}(h:P.underlying t=some u)(hn:(match u with | .struct _ | .array _ _=>true | _=>false)=false)(pre:List Value)(v:Value)(cs:List Value)(w:World) :
  (part t (pre++v::cs).toArray pre.length).run P w=.ok v w:=by
 simp only[part,Sem.run_bind,Y1 h hn]
 simp
theorem oi{w:World}{ok:Nat->Prop}(dp:Nat):∀ (τ:Ty) (a b:den τ) (off:Nat) (fs:List Field) (pre ZG cs yB:List Value),nj c τ off fs=true->Rc w ok τ a cs->Rc w ok τ b yB->pre.length=off->ZG.length=off ->
  (Op.eqFields (dp+1) (pre++cs).toArray (ZG++yB).toArray fs).run c.P w=.ok (Lo τ a b) w
 | .nil,_,_,_,fs,pre,ZG,cs,yB,h,_,_,_,_=>by
  cases fs with
  | nil=>rfl
  | cons f fs=>cases h
 | .cons a r,x,y,off,fs,pre,ZG,cs,yB,h,hx,hy,hp,TJ=>by
  cases fs with
  | nil=>cases h
  | cons f fs =>
   have h:(decide (f.name ≠ "_")&&(Nat.beq f.offset off&&(Ng c a f.type&&nj c r (off+1) fs)))=true:=h
   simp only[Bool.and_eq_true,decide_eq_true_eq]at h
   obtain⟨h1,h2,h3,h4⟩:=h
   have h2:=Nat.eq_of_beq_eq_true h2
   obtain⟨c1,c2,rfl,g1,g2⟩:=hx.cons_inv
   obtain⟨e1,e2,rfl,k1,k2⟩:=hy.cons_inv
   have ih:=λv v'=>oi dp r x.2 y.2 (off+1) fs (pre++[v]) (ZG++[v']) c2 e2 h4 g2 k2 (by simp[hp]) (by simp[TJ])
   have fin:∀ (v v':Value) (q:Bool),c1=[v]->e1=[v']->(part f.type (pre++v::c2).toArray f.offset).run c.P w=.ok v w->(part f.type (ZG++v'::e2).toArray f.offset).run c.P w=.ok v' w->(Op.equalIn (dp+1) f.type v v').run c.P w=.ok q w->Lo a x.1 y.1=q ->
     (Op.eqFields (dp+1) (pre++(c1++c2)).toArray (ZG++(e1++e2)).toArray (f::fs)).run c.P w=.ok (Lo (.cons a r) x y) w:=by
    rintro v v' q rfl rfl p1 p2 p3 p4
    show(Op.eqFields (dp+1) (pre++v::c2).toArray (ZG++v'::e2).toArray (f::fs)).run c.P w=.ok (Lo a x.1 y.1&&Lo r x.2 y.2) w
    rw[Op.eqFields,if_pos h1]
    simp only[Sem.run_bind,p1,p2,p3,Result.andThen_ok]
    rw[p4]
    cases q with
    | false=>rfl
    | true =>
     grind
   subst hp
   rcases YX h3 with⟨k,rfl,hu⟩ | ⟨rfl,hu⟩ | ⟨rfl,hu⟩
   ·exact fin _ _ _ g1.jJ k1.jJ (by rw[h2]; exact yt hu rfl pre _ c2 w) (by rw[h2,<- TJ]; exact yt hu rfl ZG _ e2 w) (run_equalIn_int w dp _ k k _ _ hu) rfl
   ·exact fin _ _ _ g1.uG k1.uG (by rw[h2]; exact yt hu rfl pre _ c2 w) (by rw[h2,<- TJ]; exact yt hu rfl ZG _ e2 w) (run_equalIn_bool' w dp _ _ _ hu) rfl
   ·refine fin _ _ _ g1.xM k1.xM (by rw[h2]; exact yt hu rfl pre _ c2 w) (by rw[h2,<- TJ]; exact yt hu rfl ZG _ e2 w) (run_equalIn_string w dp _ _ _ hu) ?_
    rw[Z5,Z5]
    rfl
 | .int _,_,_,_,_,_,_,_,_,h,_,_,_,_=>by simp[nj]at h
 | .bool,_,_,_,_,_,_,_,_,h,_,_,_,_=>by simp[nj]at h
 | .str,_,_,_,_,_,_,_,_,h,_,_,_,_=>by simp[nj]at h
 | .sl _,_,_,_,_,_,_,_,_,h,_,_,_,_=>by simp[nj]at h
 | .expr,_,_,_,_,_,_,_,_,h,_,_,_,_=>by simp[nj]at h
theorem Yd{op:BinOp}{t:Nat}{px py:Operand}{x y:Option D}{v u:Value}{d:Option D}{zl:St}(hI:Inv κ)(hx:∀ z,x=some z->RD κ z v)(hy:∀ z,y=some z->RD κ z u)
  (h:(zr (DE c op t x y) κ.st).leads (d,zl)):qg c.P (do Pure.pure (.value (<- (do eqGuard op t px py v u; binOp op t v u)))) κ d zl:=by
 unfold DE at h
 split at h
 ·rename_i τ a σ b
  split at h
  ·rename_i b' hb
   unfold we at hb
   split at hb
   ·rename_i e
    subst e
    injection hb with hb
    subst hb
    cases hg:σ.isAgg&&sV c σ t with
    | false=>rw[hg]at h; exact absurd h ze
    | true =>
     rw[hg,cond_true]at h
     rw[Bool.and_eq_true]at hg
     obtain⟨Eo,hso⟩:=hg
     unfold sV at hso
     split at hso
     ·rename_i fs hu
      simp at hso
      obtain⟨f1,f2,f3⟩:=hso
      have hfo:c.P.fieldsOf t=fs:=by unfold Program.fieldsOf; rw[hu]
      cases hx _ rfl with
      | zx _ _ cs g1 =>
      cases hy _ rfl with
      | zx _ _ yB g2 =>
       have e1:pk σ cs=.agg cs.toArray:=by unfold pk; rw[if_pos Eo]
       have e2:pk σ yB=.agg yB.toArray:=by unfold pk; rw[if_pos Eo]
       have hr:=oi (c:=c) 9998 σ a b 0 fs.toList [] [] cs yB f1 g1 g2 rfl rfl
       have hq:(Op.equalIn 10000 t (.agg cs.toArray) (.agg yB.toArray)).run c.P κ.w=.ok (Lo σ a b) κ.w:=by
        rw[show(10000:Nat)=9999+1 from rfl,run_equalIn_agg κ.w 9999 t _ _ (by grind) f2,hfo]
        exact hr
       rw[e1,e2]
       cases op<;>try (exact absurd h ze)
       ·rw[fD]at h; obtain⟨rfl,rfl⟩:=h
        refine qg.pure hI ?_ RD.bool
        simp only[Sem.run_bind,run_eqGuard_agg κ.w _ t px py _ _ f3,Result.andThen_ok,run_eql_struct,hq]
       ·rw[fD]at h; obtain⟨rfl,rfl⟩:=h
        refine qg.pure hI ?_ RD.bool
        simp only[Sem.run_bind,run_eqGuard_agg κ.w _ t px py _ _ f3,Result.andThen_ok,run_neq_struct,hq]
     ·cases hso
   ·cases hb
  ·exact absurd h ze
 ·exact absurd h ze
theorem Fh{op:BinOp}{t:Nat}{px py:Operand}{x y:Option D}{v u:Value}{d:Option D}{zl:St}(hI:Inv κ)(hx:∀ z,x=some z->RD κ z v)(hy:∀ z,y=some z->RD κ z u)
  (h:(zr (Kw c op t x y) κ.st).leads (d,zl)):qg c.P (do Pure.pure (.value (<- (do eqGuard op t px py v u; binOp op t v u)))) κ d zl:=by
 unfold Kw at h
 split at h
 ·rename_i k a k' b hk WG
  have:=vo hk hx
  subst this
  have:=vo WG hy
  subst this
  split at h
  ·rw[wK]at h
   obtain⟨hb,rfl,rfl⟩:=h
   refine qg.pure hI ?_ RD.int
   simp only[Sem.run_bind,eW,Result.andThen_ok,binOp,Op.shift,if_neg (show ¬ b<0 by omega)]
   rfl
  ·rw[wK]at h
   obtain⟨hb,rfl,rfl⟩:=h
   refine qg.pure hI ?_ RD.int
   simp only[Sem.run_bind,eW,Result.andThen_ok,binOp,Op.shift,if_neg (show ¬ b<0 by omega)]
   rfl
  ·rename_i n1 n2
   cases he:decide (k=k')with
   | false=>rw[he]at h; exact absurd h ze
   | true =>
    have Eb:=of_decide_eq_true he
    subst Eb
    rw[he,cond_true]at h
    obtain⟨y',v',rfl,rfl,h1,h2⟩:=KF (c:=c) (κ:=κ) (t:=t) h (by cases op<;>first | rfl | (exact absurd rfl n1) | (exact absurd rfl n2))
    exact qg.pure hI (by simp only[Sem.run_bind,eW,Result.andThen_ok,h1]) h2
 ·split at h
  ·rename_i a b ha hb
   have:=fK ha hx
   subst this
   have:=fK hb hy
   subst this
   cases hs:sq op with
   | true=>rw[hs]at h; exact absurd h ze
   | false =>
    rw[hs,cond_false]at h
    obtain⟨y',v',rfl,rfl,h1,h2⟩:=YA (c:=c) (κ:=κ) (t:=t) h hs
    exact qg.pure hI (by simp only[Sem.run_bind,Ub,Result.andThen_ok,h1]) h2
  ·split at h
   ·rename_i a b hu ha hb
    have:=iX ha hx
    subst this
    have:=iX hb hy
    subst this
    cases op<;>simp only[FD]at h<;>try (exact absurd h ze)
    all_goals
     rw[fD]at h; obtain⟨rfl,rfl⟩:=h
     refine qg.pure hI ?_ RD.bool
     simp only[Sem.run_bind,Wu,Result.andThen_ok,binOp,Yj hu,Sem.run_pure]
   ·exact Yd hI hx hy h
theorem Mu{op:UnOp}{x:Option D}{v:Value}{d:Option D}{zl:St}(hI:Inv κ)(hx:∀ z,x=some z->RD κ z v)
  (h:(zr (Iq op x) κ.st).leads (d,zl)):qg c.P (do Pure.pure (.value (<- Op.unary op v))) κ d zl:=by
 unfold Iq at h
 split at h
 ·split at h
  ·rename_i k n hk
   have:=vo hk hx
   subst this
   obtain⟨rfl,rfl⟩:=h
   exact qg.pure hI (by rfl) RD.int
  ·exact absurd h ze
 ·split at h
  ·rename_i b hb
   have:=iX hb hx
   subst this
   obtain⟨rfl,rfl⟩:=h
   exact qg.pure hI (by rfl) RD.bool
  ·exact absurd h ze
 ·split at h
  ·rename_i k n hk
   have:=vo hk hx
   subst this
   obtain⟨rfl,rfl⟩:=h
   exact qg.pure hI (by rfl) RD.int
  ·exact absurd h ze
 ·exact absurd h ze
theorem Nc{t ty:Nat}{ts:Array Nat}{x:Option D}{v:Value}{vs:Array Value}{d:Option D}{zl:St}(hI:Inv κ)(hx:∀ z,x=some z->RD κ z v)(ht:ts[0]? = some t)(hv:vs[0]? = some v)
  (h:(zr (ID c t x) κ.st).leads (d,zl)):qg c.P (do Pure.pure (.value (<- Builtin.len_ ts ty vs))) κ d zl:=by
 unfold ID at h
 split at h
 ·rename_i e hu
  have key:∀ (n:Nat) (a:Option Addr) (cap:Nat),v=.slice a n cap->d=some (.zx (.int .i64) (n:Int))->zl=κ.st->qg c.P (do Pure.pure (.value (<- Builtin.len_ ts ty vs))) κ d zl:=by
   rintro n a cap rfl rfl rfl
   exact qg.pure hI (by simp[Builtin.len_,ht,hv,run_underlying hu,goInt]) RD.int
  split at h
  ·rename_i e' l
   rw[cA]at h
   rcases((hx _ rfl).wF rfl).p7 with⟨rfl,a0,he⟩ | ⟨blk,off,cap,f,he,_⟩
   ·grind
   ·grind
  ·rename_i e' l ne
   rw[cA]at h
   cases hx _ rfl with
   | qL _ a0=>grind
   | tight=>grind
  ·rw[cA]at h
   cases hx _ rfl
   grind
  ·rw[cA]at h
   cases hx _ rfl
   grind
  ·exact absurd h ze
 ·rename_i hu
  split at h
  ·rename_i s hs
   have:=fK hs hx
   subst this
   obtain⟨rfl,rfl⟩:=h
   have vV:(⟨s.toArray⟩:ByteArray).size=s.length:=rfl
   exact qg.pure hI (by simp only[Builtin.len_,ht,hv,Sem.run_bind,run_underlying hu,Result.andThen_ok,goInt,vV,Sem.run_pure]) RD.int
  ·exact absurd h ze
 ·exact absurd h ze
theorem YS{f:Int->Int->Int}{g:Value->Value->Sem Value}{P:Program}(hg:∀ k k' a b,(g (.int k a) (.int k' b)).run P κ.w=.ok (.int k (f a b)) κ.w){x y:Option D}{v u:Value}{d:Option D}{zl:St}
  (hI:Inv κ) (hx:∀ z,x=some z->RD κ z v) (hy:∀ z,y=some z->RD κ z u) (h:(zr (tE f [x,y]) κ.st).leads (d,zl)) :
  ∃ r,(g v u).run P κ.w=.ok r κ.w/\zl=κ.st/\∀ d',d=some d'->RD κ d' r:=by
 unfold tE at h
 simp only at h
 split at h
 ·rename_i k a k' b hk WG
  have:=vo hk hx
  subst this
  have:=vo WG hy
  subst this
  cases he:decide (k=k')with
  | false=>rw[he]at h; exact absurd h ze
  | true =>
   rw[he,cond_true,cA]at h
   obtain⟨rfl,rfl⟩:=h
   exact⟨_,hg k k' a b,rfl,λd' he=>by cases he; exact RD.int⟩
 ·exact absurd h ze
theorem Wt{x:Option D}{i:Nat}{v:Value}{d:Option D}{zl:St}(hI:Inv κ)(hx:∀ z,x=some z->RD κ z v)
  (h:(zr (oD x i) κ.st).leads (d,zl)):qg c.P (do Pure.pure (.value (<- Instr.extract v i))) κ d zl:=by
 unfold oD at h
 split at h
 ·rename_i vs
  obtain⟨y,hy,rfl,rfl⟩:=th h
  cases hx _ rfl with
  | jW _ us hl hh =>
   obtain⟨u,h1,h2⟩:=qj.get (⟨hl,hh⟩:qj κ vs us) hy
   exact qg.pure hI (by simp[Instr.extract,h1]) h2
 ·exact absurd h ze
theorem gG:∀ {l:List (Option D)} {ds:List D},vJ l=some ds->l=ds.map some
 | [],ds,h=>by simp[vJ]at h; subst h; rfl
 | some d::r,ds,h=>by
  simp only[vJ]at h
  split at h
  ·rename_i l hl; cases h; simp[gG hl]
  ·cases h
 | none::r,ds,h=>by simp[vJ]at h
theorem k9{l:List (Option D)}{ds:List D}{vs:List Value}(h:vJ l=some ds)(hl:l.length=vs.length)
  (hr:∀ (i:Nat) (d:D) (v:Value),l[i]? = some (some d)->vs[i]? = some v->RD κ d v):qj κ ds vs:=by
 have:=gG h
 subst this
 refine⟨by grind,λi h1 h2=>hr i _ _ ?_ (List.getElem?_eq_getElem h2)⟩
 simp
end
end Go.AM
namespace Go.AM
namespace T
variable {α β γ:Type}
theorem yu{t:T α}{x y:α}(h:t.leads x)(k:t.leads y):x=y:=by
 induction t with
 | ret a=>exact h.symm.trans k
 | ite b p q ip iq =>
  rcases h with⟨h1,h⟩ | ⟨h1,h⟩<;>rcases k with⟨k1,k⟩ | ⟨k1,k⟩
  ·grind
  ·grind
  ·grind
  ·grind
 | zC p t ih=>exact ih h.2 k.2
 | fail=>exact h.elim
theorem zb{t:T α}{f:α->T β}{x:β}:(t.bind f).leads x↔∃ a,t.leads a/\(f a).leads x:=by
 induction t with
 | ret a=>exact⟨λh=>⟨a,rfl,h⟩,λ⟨b,h,k⟩=>by cases h; exact k⟩
 | ite b p q ip iq =>
  constructor
  ·rintro(⟨h1,h⟩ | ⟨h1,h⟩)
   ·obtain⟨a,k1,k2⟩:=ip.1 h; exact⟨a,.inl ⟨h1,k1⟩,k2⟩
   ·obtain⟨a,k1,k2⟩:=iq.1 h; exact⟨a,.inr ⟨h1,k1⟩,k2⟩
  ·rintro⟨a,⟨h1,k1⟩ | ⟨h1,k1⟩,k2⟩
   ·exact .inl ⟨h1,ip.2 ⟨a,k1,k2⟩⟩
   ·exact .inr ⟨h1,iq.2 ⟨a,k1,k2⟩⟩
 | zC p t ih =>
  constructor
  ·rintro⟨h1,h⟩; obtain⟨a,k1,k2⟩:=ih.1 h; exact⟨a,⟨h1,k1⟩,k2⟩
  ·rintro⟨a,⟨h1,k1⟩,k2⟩; exact⟨h1,ih.2 ⟨a,k1,k2⟩⟩
 | fail=>exact⟨λh=>h.elim,λ⟨_,h,_⟩=>h.elim⟩
open Classical in
noncomputable def run:T α->Option α
 | ret a=>some a
 | ite b t e=>bif b then t.run else e.run
 | zC p t=>if p then t.run else none
 | fail=>none
@[simp] theorem z7(a:α):(ret a).run=some a:=rfl
@[simp] theorem z0H:(fail:T α).run=none:=rfl
theorem run_ite(b:Bool)(t e:T α):(ite b t e).run=if b=true then t.run else e.run:=by cases b<;>rfl
@[simp] theorem zm(t e:T α):(ite true t e).run=t.run:=rfl
@[simp] theorem zh(t e:T α):(ite false t e).run=e.run:=rfl
theorem zd{p:Prop}(h:p)(t:T α):(zC p t).run=t.run:=by simp only[run,if_pos h]
theorem zc{b:Bool}(h:b=true)(t e:T α):(ite b t e).run=t.run:=by rw[h]; rfl
theorem za{b:Bool}(h:b=false)(t e:T α):(ite b t e).run=e.run:=by rw[h]; rfl
theorem xU{t:T α}{x:α}:t.run=some x↔t.leads x:=by
 induction t with
 | ret a=>simp[leads]
 | ite b p q ip iq=>cases b<;>simp[leads,ip,iq]
 | zC p t ih=>by_cases h:p<;>simp[run,leads,ih]
 | fail=>simp[leads]
theorem run_bind(t:T α)(f:α->T β):(t.bind f).run=t.run.bind λa=>(f a).run:=by
 induction t with
 | ret a=>rfl
 | ite b p q ip iq=>cases b<;>simp[bind,ip,iq]
 | zC p t ih=>by_cases h:p<;>simp[run,bind,h,ih]
 | fail=>rfl
theorem z6{t:T α}{a:α}(h:t.run=some a)(f:α->T β):(t.bind f).run=(f a).run:=by rw[run_bind,h]; rfl
section loop
variable {σ ρ:Type} (r:σ->T (σ⊕ρ))
inductive Iter:Nat->σ->ρ->Prop
 | done {s:σ} {x:ρ} (h:(r s).leads (.inr x)):Iter 0 s x
 | step {n:Nat} {s s':σ} {x:ρ} (h:(r s).leads (.inl s')) (k:Iter n s' x):Iter (n+1) s x
theorem Iter.det{r:σ->T (σ⊕ρ)}{n m:Nat}{s:σ}{x y:ρ}(h:Iter r n s x)(k:Iter r m s y):x=y:=by
 induction h generalizing m y with
 | done h =>
  cases k with
  | done k=>have:=yu h k; cases this; rfl
  | step k _=>have:=yu h k; cases this
 | step h _ ih =>
  cases k with
  | done k=>have:=yu h k; cases this
  | step k k2=>have:=yu h k; cases this; exact ih k2
open Classical in
noncomputable def loop (s:σ):T ρ:=if h:∃ x n,Iter r n s x then .ret h.choose else .fail
theorem hM{s:σ}{x:ρ}:(loop r s).leads x↔∃ n,Iter r n s x:=by
 unfold loop
 split
 ·rename_i h
  obtain⟨n,hn⟩:=h.choose_spec
  constructor
  ·intro hx; cases hx; exact⟨n,hn⟩
  ·rintro⟨m,hm⟩; exact hn.det hm
 ·rename_i h
  exact⟨λk=>k.elim,λ⟨n,hn⟩=>h ⟨x,n,hn⟩⟩
theorem kZ{r:σ->T (σ⊕ρ)}(I:σ->Prop)(μ:σ->Nat)(f:σ->ρ)
  (h:∀ s,I s->(∃ s',(r s).run=some (.inl s')/\I s'/\μ s'<μ s/\f s'=f s)\/(r s).run=some (.inr (f s))) {s:σ} (hs:I s):(loop r s).run=some (f s):=by
 rw[xU,hM]
 generalize hm:μ s=m
 induction m using Nat.strongRecOn generalizing s with
 | _ m ih =>
  rcases h s hs with⟨s',h1,h2,h3,h4⟩ | h1
  ·obtain⟨n,hn⟩:=ih (μ s') (by omega) h2 rfl
   exact⟨n+1,.step (xU.1 h1) (h4▸hn)⟩
  ·exact⟨0,.done (xU.1 h1)⟩
theorem j6{r:σ->T (σ⊕ρ)}{s s':σ}(h:(r s).run=some (.inl s')):(loop r s).run=(loop r s').run:=by
 have h':=xU.1 h
 apply Option.ext
 intro x
 show(loop r s).run=some x↔(loop r s').run=some x
 rw[xU,xU,hM,hM]
 constructor
 ·rintro⟨n,hn⟩
  cases hn with
  | done k=>have:=yu h' k; cases this
  | step k k2=>have:=yu h' k; cases this; exact⟨_,k2⟩
 ·rintro⟨n,hn⟩; exact⟨n+1,.step h' hn⟩
theorem xw{r:σ->T (σ⊕ρ)}{s:σ}{x:ρ}(h:(r s).run=some (.inr x)):(loop r s).run=some x:=by
 rw[xU,hM]; exact⟨0,.done (xU.1 h)⟩
end loop
section fix
variable {σ ρ:Type} (b:(σ->T ρ)->σ->T ρ)
def JE:Nat->σ->T ρ
 | 0,_=>.fail
 | n+1,x=>b (JE n) x
open Classical in
noncomputable def fix (x:σ):T ρ:=if h:∃ y n,∀ m,n<=m->(JE b m x).leads y then .ret h.choose else .fail
theorem cI{x:σ}{y:ρ}:(fix b x).leads y↔∃ n,∀ m,n<=m->(JE b m x).leads y:=by
 unfold fix
 split
 ·rename_i h
  obtain⟨n,hn⟩:=h.choose_spec
  constructor
  ·intro hx; cases hx; exact⟨n,hn⟩
  ·rintro⟨k,hk⟩; exact yu (hn (max n k) (by omega)) (hk (max n k) (by omega))
 ·rename_i h
  exact⟨λk=>k.elim,λ⟨n,hn⟩=>h ⟨y,n,hn⟩⟩
theorem V4{b:(σ->T ρ)->σ->T ρ}(I:σ->Prop)(μ:σ->Nat)(f:σ->ρ)
  (h:∀ x,I x->∀ g:σ->T ρ,(∀ y,I y->μ y<μ x->(g y).run=some (f y))->(b g x).run=some (f x)) {x:σ} (hx:I x):(fix b x).run=some (f x):=by
 rw[xU,cI]
 refine⟨μ x+1,λm hm => ?_⟩
 induction m generalizing x with
 | zero=>omega
 | succ m ih =>
  rw[<- xU]
  refine h x hx (JE b m) λy hy qc => ?_
  rw[xU]
  exact ih hy (by omega)
end fix
def nS:T α->Option Prop
 | ret _=>none
 | ite b t e=>match t.nS,e.nS with
  | none,none=>none
  | some p,none=>some (b=true->p)
  | none,some q=>some (b=false->q)
  | some p,some q=>some ((b=true->p)/\(b=false->q))
 | zC p t=>match t.nS with
  | none=>some p
  | some q=>some (p/\q)
 | fail=>some False
def val(d:α):T α->α
 | ret a=>a
 | ite b t e=>bif b then t.val d else e.val d
 | zC _ t=>t.val d
 | fail=>d
def flat(d:α)(t:T α):T α:=match t.nS with
 | none=>.ret (t.val d)
 | some p=>.zC p (.ret (t.val d))
def s6(t:T α):Prop:=match t.nS with | none=>True | some p=>p
theorem tq(d:α)(t:T α)(x:α):t.leads x↔t.s6/\t.val d=x:=by
 induction t with
 | ret a=>simp[leads,s6,nS,val]
 | ite b p q ip iq =>
  cases b
  ·simp only[leads,val,iq]
   unfold s6
   simp only[nS]
   grind
  ·simp only[leads,val,ip]
   unfold s6
   simp only[nS]
   grind
 | zC p t ih =>
  simp only[leads,ih,val]
  unfold s6
  simp only[nS]
  grind
 | fail=>simp[leads,s6,nS]
end T
abbrev zZ(x:Int):Int:=IntKind.wrap .i64 x
abbrev zS(x:Int):Int:=IntKind.wrap .u64 x
abbrev vv(x:Int):Int:=IntKind.wrap .u32 x
abbrev Lm(x:Int):Int:=IntKind.wrap .u8 x
def vG(qh off len n:Nat):Prop:=qh=n/\off=0/\len=n
def qO(i:Int)(n:Nat):Prop:=0<=i/\i<(n:Int)
def iE(qh uO idx n:Nat):Prop:=qh=uO/\idx<n
def UH(qh uO off len n m bytes:Nat):Prop:=qh=uO/\off=0/\len=n/\(n+m)*bytes<=140737488355328
def gb(l h:Int)(n:Nat):Prop:=0<=l/\l<=h/\h<=(n:Int)
def bB(l:zf):Nat->zf
 | 0=>[]
 | c+1=>l++bB l c
def Q7(u:Nat):zf:=if h:u<10 then[UInt8.ofNat (48+u)]else Q7 (u / 10)++[UInt8.ofNat (48+u % 10)]
termination_by u
decreasing_by omega
def nP(n:Int):zf:=if n<0 then 45::Q7 n.natAbs else Q7 n.toNat
def gK:zf->zf->Int
 | [],sub=>if sub.isEmpty then 0 else -1
 | b::l,sub=>if sub.isPrefixOf (b::l)then 0 else if gK l sub == -1 then -1 else gK l sub+1
def eK:zf->UInt8->Int
 | [],_ => -1
 | b::l,c=>if b==c then 0 else if eK l c == -1 then -1 else eK l c+1
def wm(s sep:zf):zf×zf×Bool:=if 0<=gK s sep then(s.take (gK s sep).toNat,s.drop ((gK s sep).toNat+sep.length),true)else(s,[],false)
def cP(s p:zf):zf:=if List.isPrefixOf p s=true then s.drop p.length else s
def yZ(s:zf):den (gA .bool 256):=BM (e:=.bool) (λj=>s.contains (UInt8.ofNat j)) 256 0
def PE(v v' o l n:Nat):Prop:=v=v'/\o+l<=n
def WA(n m:Int)(bytes:Nat):Prop:=0<=n/\n<=m/\m*bytes<=140737488355328/\m<=140737488355328
def nth{α:Type}(l:List α)(i:Int)(d:α):α:=List.getD l i.toNat d
def kR{α:Type}(l:List α)(i:Nat)(d:α):α:=List.getD l i d
def qz(s:zf)(i:Int):Int:=((List.getD s i.toNat 0).toNat:Int)
def Ev(k:IntKind)(x y:Int):Int:=iB k (· &&& ·) x y
def QI(k:IntKind)(x y:Int):Int:=iB k (· ||| ·) x y
def Y2(k:IntKind)(x y:Int):Int:=iB k (· ^^^ ·) x y
theorem b9{l h:Int}{n:Nat}:gb l h n↔0<=l/\l<=h/\h<=(n:Int):=by rfl
def On(l:List Int):T (zf×Unit):=.zC ((∀ n∈l,(0:Int)<=n/\n<256)/\List.length l<=140737488355328) (.ret (xy l,()))
end Go.AM
namespace Go.AM
def CI(b:UInt8):List zf->List zf
 | []=>[[b]]
 | x::y=>(b::x)::y
def uK(c:UInt8):zf->List zf
 | []=>[[]]
 | b::r=>if b=c then[]::uK c r else CI b (uK c r)
def w7(c:UInt8):zf->zf->List zf
 | cur,[]=>if cur=[]then[]else[cur]
 | cur,b::r=>if b=c then(if cur=[]then w7 c [] r else cur::w7 c [] r)else w7 c (cur++[b]) r
def kG:zf->zf->Int
 | [],_ => -1
 | b::l,chars=>if chars.contains b then 0 else if kG l chars == -1 then -1 else kG l chars+1
abbrev oI{A R:Type}(i:Int)(l:List A)(t:T R):T R:=.zC (qO i l.length) t
abbrev oE{A R:Type}(l:List A)(t:T R):T R:=.zC (l.length=l.length) t
abbrev oC{A R:Type}(l:List A)(t:T R):T R:=.zC (vG l.length 0 l.length l.length) t
abbrev oM{R:Type}(a b:Nat)(t:T R):T R:=.zC (vG a 0 a b) (.zC (a=b) t)
abbrev oA{A R:Type}(l:List A)(k:Nat)(t:T R):T R:=.zC (UH l.length l.length 0 l.length l.length 1 k) t
abbrev oK{R:Type}(a b:zf)(t:T R):T R:=.zC (a.length+b.length<=4611686018427387904) t
abbrev oZ{R:Type}(t:T R):T R:=.zC (vG 0 0 0 0) (.zC ((0:Nat)=0) t)
abbrev oV{A B C D E F R:Type}(a:List A)(b:List B)(c:List C)(d:List D)(e:List E)(f:List F)(t:T R):T R:=oC a (oC b (oC c (oC d (oC e (oC f t)))))
abbrev oW{A B C D E F R:Type}(a:List A)(b:List B)(c:List C)(d:List D)(e:List E)(f:List F)(t:T R):T R:=oE a (oE b (oE c (oE d (oE e (oE f t)))))
abbrev oY{A B C D E F R:Type}(a:List A)(b:List B)(c:List C)(d:List D)(e:List E)(f:List F)(t:T R):T R:=oV a b c d e f (oW a b c d e f t)
end Go.AM
namespace Go.AM
namespace T
variable {α β:Type}
attribute [simp] run_bind
@[simp] theorem nq(b:Bool)(t e:T α):(ite b t e).run=if b=true then t.run else e.run:=run_ite b t e
@[simp] theorem qq{i:Int}{n:Nat}(t:T α)(h1:0<=i)(h2:i<(n:Int)):(zC (qO i n) t).run=t.run:=zd ⟨h1,h2⟩ t
@[simp] theorem jv{v v' i n:Nat}(t:T α)(h1:v=v')(h2:i<n):(zC (iE v v' i n) t).run=t.run:=zd ⟨h1,h2⟩ t
@[simp] theorem cR{v v' o l n m b:Nat}(t:T α)(h1:v=v')(h2:o=0)(h3:l=n)(h4:(n+m)*b<=140737488355328):(zC (UH v v' o l n m b) t).run=t.run:=zd ⟨h1,h2,h3,h4⟩ t
@[simp] theorem zH{v o l n:Nat}(t:T α)(h1:v=n)(h2:o=0)(h3:l=n):(zC (vG v o l n) t).run=t.run:=zd ⟨h1,h2,h3⟩ t
@[simp] theorem c9{l h:Int}{n:Nat}(t:T α)(h1:0<=l)(h2:l<=h)(h3:h<=(n:Int)):(zC (gb l h n) t).run=t.run:=zd ⟨h1,h2,h3⟩ t
@[simp] theorem run_mk{n m:Int}{b:Nat}(t:T α)(h1:0<=n)(h2:n<=m)(h3:m*b<=140737488355328)(h4:m<=140737488355328):(zC (WA n m b) t).run=t.run:=zd ⟨h1,h2,h3,h4⟩ t
@[simp] theorem LZ{v v' o l n:Nat}(t:T α)(h1:v=v')(h2:o+l<=n):(zC (PE v v' o l n) t).run=t.run:=zd ⟨h1,h2⟩ t
@[simp] theorem wZ{a b:Nat}(t:T α)(h:a=b):(zC (a=b) t).run=t.run:=zd h t
@[simp] theorem zP{a b:Nat}(t:T α)(h:a<=b):(zC (a<=b) t).run=t.run:=zd h t
@[simp] theorem kH{a b:Int}(t:T α)(h:a<=b):(zC (a<=b) t).run=t.run:=zd h t
@[simp] theorem c6{a b:Int}(t:T α)(h:a≠b):(zC (a≠b) t).run=t.run:=zd h t
@[simp] theorem z3S{A:Type}{i:Int}{l:List A}(t:T α)(h1:0<=i)(h2:i<(l.length:Int)):(oI i l t).run=t.run:=zd ⟨h1,h2⟩ t
@[simp] theorem z6C{A:Type}(l:List A)(t:T α):(oE l t).run=t.run:=zd rfl t
@[simp] theorem z4a{A:Type}(l:List A)(t:T α):(oC l t).run=t.run:=zd ⟨rfl,rfl,rfl⟩ t
@[simp] theorem z4i{a b:Nat}(t:T α)(h:a=b):(oM a b t).run=t.run:=(zd ⟨h,rfl,h⟩ _).trans (zd h t)
@[simp] theorem z52{A:Type}{l:List A}{k:Nat}(t:T α)(h:(l.length+1)*k<=140737488355328):(oA l k t).run=t.run:=zd ⟨rfl,rfl,rfl,h⟩ t
@[simp] theorem z4M{a b:zf}(t:T α)(h:a.length+b.length<=4611686018427387904):(oK a b t).run=t.run:=zd h t
@[simp] theorem zi(t:T α):(zC True t).run=t.run:=zd trivial t
end T
@[simp] theorem zI{x:Int}(h1 : -9223372036854775808<=x)(h2:x<=9223372036854775807):zZ x=x:=IntWalk.i64_in x ⟨h1,h2⟩
@[simp] theorem Gc{x:Int}(h1:0<=x)(h2:x<=255):Lm x=x:=IntWalk.u8_in x ⟨h1,h2⟩
@[simp] theorem Vk{x:Int}(h1:0<=x)(h2:x<=4294967295):vv x=x:=IntWalk.u32_in x ⟨h1,h2⟩
@[simp] theorem qK{x:Int}(h1:0<=x)(h2:x<=18446744073709551615):zS x=x:=IntWalk.u64_in x ⟨h1,h2⟩
theorem ic(x:Int):vv x=x % 4294967296:=IntKind.wrap_u32 x
theorem Dy{α:Type}(l:List α)(d:α){i:Int}(h0:0<=i)(hi:i<(l.length:Int)):l.drop i.toNat=nth l i d::l.drop (i+1).toNat:=by
 unfold nth
 have qc:i.toNat<l.length:=by omega
 have e:(i+1).toNat=i.toNat+1:=by omega
 rw[e,List.drop_eq_getElem_cons qc]
 simp[List.getD_eq_getElem?_getD,qc]
theorem IU{α:Type}(l:List α){i:Int}(hi:¬ i<(l.length:Int)):l.drop i.toNat=[]:=List.drop_eq_nil_of_le (by omega)
end Go.AM