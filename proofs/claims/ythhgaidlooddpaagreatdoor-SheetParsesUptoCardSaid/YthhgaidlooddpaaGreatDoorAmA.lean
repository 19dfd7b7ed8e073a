/-
  The abstract machine, part A: texts of our own, the same for each claim.
-/
import Derived.WalkKit
import Derived.Laws.StructEq
set_option linter.unusedVariables false
namespace Go.AM
theorem eV{a b c d:Prop}(h:a\/b)(f:a->c)(g:b->d):c\/d:=by grind
abbrev zd:=List UInt8
inductive Ty where
 | int (k:IntKind) | bool | str | sl (e:Ty) | nil | cons (a b:Ty) | expr
 deriving DecidableEq
inductive Expr where
 | mk (kind:Int) (num:Bool×List Int×List Int×Unit) (name:zd) (kids:List Expr)
def Expr.kind:Expr->Int | .mk k _ _ _=>k
def Expr.num:Expr->Bool×List Int×List Int×Unit | .mk _ n _ _=>n
def Expr.name:Expr->zd | .mk _ _ n _=>n
def Expr.kids:Expr->List Expr | .mk _ _ _ l=>l
@[reducible] def den:Ty->Type
 | .int _=>Int
 | .bool=>Bool
 | .str=>zd
 | .sl e=>List (den e)
 | .nil=>Unit
 | .cons a b=>den a×den b
 | .expr=>Expr
abbrev u32:Ty:=.int .u32
abbrev i64:Ty:=.int .i64
abbrev YL:Ty:=.cons .bool (.cons (.sl u32) (.cons (.sl u32) .nil))
abbrev WI:Ty:=.cons i64 (.cons YL (.cons .str (.cons (.sl .expr) .nil)))
def Expr.TA(e:Expr):den WI:=(e.kind,e.num,e.name,e.kids,())
def Expr.EG(x:den WI):Expr:=.mk x.1 x.2.1 x.2.2.1 x.2.2.2.1
def Ty.size:Ty->Nat
 | .int _ | .bool | .str | .sl _=>1
 | .nil=>0
 | .cons a b=>a.size+b.size
 | .expr=>6
def Ty.isAgg:Ty->Bool
 | .nil | .cons _ _ | .expr=>true
 | _=>false
def zn:(τ:Ty)->den τ
 | .int _=>(0:Int)
 | .bool=>false
 | .str=>([]:zd)
 | .sl e=>([]:List (den e))
 | .nil=>()
 | .cons a b=>(zn a,zn b)
 | .expr=>.mk 0 (false,[],[],()) [] []
inductive D where
 | zC (τ:Ty) (x:den τ)
 | tight (e:Ty) (l:List (den e)) (ne:Bool)
 | xE | yL | xh | uq | uo
 | ptr (b off:Nat)
 | xe (τ:Ty) (x:den τ)
 | uQ (b qJ:Nat) (e:Ty) (idx off:Nat)
 | ms (b qJ:Nat) (e:Ty) (off len:Nat)
 | xk (f:Nat) (cap:List D)
 | agg (cs:List D)
 | gz (vs:List D)
 | iface (t:Nat) (d:D)
 | tA
 | yt (b T:Nat)
 | dr (T:Nat)
inductive yj where
 | dead
 | var (d:D)
 | arr (qJ:Nat) (e:Ty) (xs:List (den e))
abbrev St:=List yj
inductive T(α:Type) where
 | ret (a:α)
 | ite (b:Bool) (t e:T α)
 | zy (p:Prop) (t:T α)
 | fail
namespace T
variable {α β:Type}
def bind:T α->(α->T β)->T β
 | ret a,k=>k a
 | ite b t e,k=>ite b (t.bind k) (e.bind k)
 | zy p t,k=>zy p (t.bind k)
 | fail,_=>fail
def YH:Option α->T α
 | some a=>ret a
 | none=>fail
def leads:T α->α->Prop
 | ret a,x=>a=x
 | ite b t e,x=>(b=true/\t.leads x)\/(b=false/\e.leads x)
 | zy p t,x=>p/\t.leads x
 | fail,_=>False
def wp(Q:α->Prop):T α->Prop
 | ret a=>Q a
 | ite b t e=>(b=true->t.wp Q)/\(b=false->e.wp Q)
 | zy p t=>p/\t.wp Q
 | fail=>False
end T
abbrev Fr:=List (Nat×Option D)
def Fr.get:Fr->Nat->Option D
 | [],_=>none
 | (t,d)::r,s=>bif Nat.beq t s then d else Fr.get r s
def Fr.put(fr:Fr)(dst:Option Nat)(d:Option D):Fr :=
 match dst with
 | some t=>(t,d)::fr
 | none=>fr
abbrev Kn:=List (Nat×Option Bool)
def Kn.get:Kn->Nat->Option Bool
 | [],_=>none
 | (t,b)::r,s=>bif Nat.beq t s then b else Kn.get r s
inductive Gy where
 | ret (ds:List D)
 | ye (d:D)
inductive Xw where
 | rp (τ:Ty) | im (τ:Ty)
inductive ZH where
 | ty (τ:Ty) | rp (τ:Ty) | xk (f:Nat) (caps:List Xw)
structure Sig where
 params:List ZH
 res:List Ty
structure Ctx where
 P:Program
 xid:Nat
 sig:Nat->List D->Option Sig
 fn:Nat->List D->St->T (Gy×St)
 ro:Nat->Bool
 /-- Blocks that a call leaves as they are. -/
 free:Nat->List D->St->List Nat
 Rg:∀ (g:Nat) (args:List D) (st:St) (rs:Gy) (zx:St) (b:Nat),(fn g args st).leads (rs,zx)->b∈free g args st->zx[b]? = st[b]?
inductive Ex where
 | normal | exit (id:Nat) | ret | ye (d:D)
class tn where
 u8:Nat
def z5S[tn](e:Ty)(t:Nat):Bool:=match e with
 | .int .u8=>Nat.beq t tn.u8
 | _=>true
def z5K[tn](e:Ty)(t:Nat):Prop:=e=.int .u8->t=tn.u8
section ops
variable (c:Ctx)
variable [tn]
def iR(t:Nat):Option Nat:=(c.P.info? t).map (·.size)
def mS(t:Nat):Option Nat:=(c.P.info? t).map (·.bytes)
def BF(t:Nat):Option Bool:=match c.P.underlying t with | some (.struct _) | some (.array _ _)=>some true | some _=>some false | none=>none
def dE:List (Option Ty)->Option Ty
 | []=>some .nil
 | some a::r=>match dE r with | some b=>some (.cons a b) | none=>none
 | none::_=>none
def B5:Nat->Nat->Option Ty
 | 0,_=>none
 | n+1,t=>bif Nat.beq t c.xid then some .expr else
  match c.P.underlying t with
  | some (.int k)=>some (.int k)
  | some .bool=>some .bool
  | some .string=>some .str
  | some (.slice e)=>match B5 n e with | some a=>some (.sl a) | none=>none
  | some (.struct fs)=>dE (fs.toList.map λf=>B5 n f.type)
  | some (.array k e)=>dE (List.replicate k (B5 n e))
  | _=>none
def kX(t:Nat)(τ:Ty):Bool:=z5S τ t&&(match iR c t with | some n=>Nat.beq n τ.size | none=>false)&&(match BF c t with | some b=>b==τ.isAgg | none=>false)
def rE:Value->Option D
 | .int k n=>some (.zC (.int k) n)
 | .bool b=>some (.zC .bool b)
 | .string s=>some (.zC .str s.data.toList)
 | .slice none 0 0=>some .xE
 | .pointer none=>some .yL
 | .nilFunc=>some .uq
 | .nilIface=>some .xh
 | .map none=>some .uo
 | _=>none
def uY:List (Option D)->Option (List D)
 | []=>some []
 | some d::r=>match uY r with | some l=>some (d::l) | none=>none
 | none::_=>none
def WG:Value->Option D
 | .agg cs=>match uY (cs.toList.map rE)with | some l=>some (.agg l) | none=>none
 | v=>rE v
def flat:(τ:Ty)->den τ->List D
 | .int k,x=>[.zC (.int k) x]
 | .bool,x=>[.zC .bool x]
 | .str,x=>[.zC .str x]
 | .sl e,x=>[.zC (.sl e) x]
 | .nil,_=>[]
 | .cons a b,x=>flat a x.1++flat b x.2
 | .expr,x=>[.zC i64 x.kind,.zC .bool x.num.1,.zC (.sl u32) x.num.2.1,.zC (.sl u32) x.num.2.2.1,.zC .str x.name,.zC (.sl .expr) x.kids]
def qm:D->List D
 | .zC τ x=>flat τ x
 | .agg cs=>cs
 | .gz _=>[]
 | d=>[d]
def D.isAgg:D->Bool
 | .agg _=>true
 | _=>false
def D.dJ:D->Bool
 | .zC τ _=>τ.isAgg
 | .agg _=>true
 | _=>false
def D.z94:D->Bool
 | .zC τ _=>τ.isAgg
 | .agg _=>true
 | _=>false
def bA:List D->Option Nat
 | .dr T::_=>some T
 | .yt _ T::_=>some T
 | _=>none
def D.typed:D->Option Nat
 | .agg l=>bA l
 | _=>none
def n4(d d':D):Bool:=match d'.typed with
 | none=>true
 | some T=>match d.typed with | some T'=>Nat.beq T T' | none=>false
def D.jf:D->Bool
 | .gz _=>true
 | _=>false
def vN{a b:Ty}(x:den a):Option (den b):=if h:a=b then some (h▸x)else none
def dY(e:Ty):Nat->Ty
 | 0=>.nil
 | n+1=>.cons e (dY e n)
def BG:Ty->Option (Ty×Nat)
 | .cons e r=>match r with
  | .nil=>some (e,1)
  | r=>match BG r with
   | some (e',n)=>bif decide (e=e')then some (e,n+1)else none
   | none=>none
 | _=>none
def oB(e:Ty):(τ:Ty)->den τ->Nat->den e
 | .cons _ _,x,0=>match(vN x.1:Option (den e))with | some y=>y | none=>zn e
 | .cons _ b,x,i+1=>oB e b x.2 i
 | _,_,_=>zn e
def OT{e:Ty}(f:Nat->den e):(n:Nat)->Nat->den (dY e n)
 | 0,_=>()
 | n+1,k=>(f k,OT f n (k+1))
def fI(τ:Ty):D->Option (den τ)
 | .zC σ x=>vN x
 | .tight e l _=>vN (a:=.sl e) l
 | .xE=>match τ with | .sl e=>some ([]:List (den e)) | _=>none
 | _=>none
def jR:(τ:Ty)->List D->Option (den τ×List D)
 | .int k,d::r=>match fI (.int k) d with | some x=>some (x,r) | none=>none
 | .bool,d::r=>match fI .bool d with | some x=>some (x,r) | none=>none
 | .str,d::r=>match fI .str d with | some x=>some (x,r) | none=>none
 | .sl e,d::r=>match fI (.sl e) d with | some x=>some (x,r) | none=>none
 | .nil,r=>some ((),r)
 | .cons a b,r=>match jR a r with
  | some (x,r')=>match jR b r' with | some (y,r'')=>some ((x,y),r'') | none=>none
  | none=>none
 | .expr,[]=>none
 | .expr,d::r=>match fI i64 d with
  | none=>none
  | some k=>match r with
   | d1::d2::d3::d4::d5::r' =>
    match fI .bool d1,fI (.sl u32) d2,fI (.sl u32) d3,fI .str d4,fI (.sl .expr) d5 with
    | some a,some n,some m,some s,some l=>some (Expr.mk k (a,n,m,()) s l,r')
    | _,_,_,_,_=>none
   | _=>none
 | _,[]=>none
def fk(τ:Ty)(d:D):Option (den τ) :=
 match d with
 | .zC σ x=>vN x
 | d=>bif (d.isAgg==τ.isAgg) && !d.jf then match jR τ (qm d)with
   | some (x,[])=>some x
   | _=>none
  else none
def nY(st:St):D->T D
 | .ms b qJ e off len=>match st[b]? with
  | some (.arr kP e' xs)=>if h:e'=e then .zy (qJ=kP) (.ret (.zC (.sl e) (h▸((xs.take (off+len)).drop off:List (den e')))))else .fail
  | _=>.fail
 | d=>.ret d
def Yk(st:St):List D->T (List D)
 | []=>.ret []
 | d::r=>(nY st d).bind λx=>(Yk st r).bind λl=>.ret (x::l)
def snap(st:St):D->T D
 | .agg cs=>(Yk st cs).bind λl=>.ret (.agg l)
 | d=>nY st d
def Q3(st:St)(τ:Ty)(d:D):T (den τ):=(snap st d).bind λx=>.YH (fk τ x)
def YA:D->Bool | .ms .. => true | _=>false
inductive cp where
 | val (t:T (Option D))
 | rd (k:St->T (Option D))
 | wr (k:St->T (Option D×St))
def val(d:D):cp:=.val (.ret (some d))
def z2X(d:Option D):cp:=match d with | some d=>.val (.ret (some d)) | none=>.val .fail
def bad:cp:=.val .fail
def z4E(t:Nat):Bool:=match c.P.underlying t with
 | some (.struct fs)=>match fs[0]? with
  | some fd=>match c.P.underlying fd.type with | some (.pointer e)=>Nat.beq e t | _=>false
  | none=>false
 | _=>false
def Rn(t:Nat)(d:D):D:=match d with
 | .agg (.yL::r)=>bif z4E c t then .agg (.dr t::r)else .agg (.yL::r)
 | d=>d
def WS(t:Nat):Option D:=match c.P.info? t with
 | some i=>match i.zero with | some z=>(match WG z with | some d=>some (Rn c t d) | none=>none) | none=>none
 | none=>none
def Gu(l:List D)(off n:Nat):Option (List D) :=
 bif Nat.ble (off+n) l.length then some ((l.drop off).take n)else none
def EY(t:Nat)(d:D)(off:Nat):Option D :=
 match BF c t with
 | some true=>match iR c t with
  | none=>none
  | some n=>bif (Nat.beq off 0)&&Nat.beq n (qm d).length&&d.z94 then some d
   else match Gu (qm d) off n with | some l=>some (.agg l) | none=>none
 | some false=>(qm d)[off]?
 | none=>none
def DN(t:Nat)(d:D)(off:Nat)(x:D):Option D :=
 match iR c t with
 | none=>none
 | some n=>bif Nat.blt 0 n&&Nat.beq n (qm x).length&&Nat.ble (off+n) (qm d).length then
   bif Nat.beq n (qm d).length then some x
   else some (.agg ((qm d).take off++qm x++(qm d).drop (off+n)))
  else none
def UT(t:Nat)(a:Option D):cp:=match a with
 | some (.xe τ x)=>bif kX c t τ then val (.zC τ x)else bad
 | some (.ptr b off)=>.rd λst=>match st[b]? with
  | some (.var d)=>match EY c t d off with | some r=>.ret (some r) | none=>.fail
  | _=>.fail
 | some (.uQ b qJ e idx off)=>.rd λst=>match st[b]? with
  | some (.arr kP e' xs)=>bif decide (e'=e)then
    .zy (qJ=kP/\idx<xs.length) (match EY c t (.zC e' (xs.getD idx (zn e'))) off with | some r=>.ret (some r) | none=>.fail)
   else .fail
  | _=>.fail
 | _=>bad
def VS(t:Nat)(a:Option D)(v:Option D):cp:=match a,v with
 | some (.ptr b off),some x=>.wr λst=>match st[b]? with
  | some (.var d)=>match DN c t d off x with | some r=>bif n4 d r then .ret (none,st.set b (.var r))else .fail | none=>.fail
  | _=>.fail
 | some (.uQ b qJ e idx off),some x=>.wr λst=>match st[b]? with
  | some (.arr kP e' xs)=>bif decide (e'=e)then
    .zy (qJ=kP/\idx<xs.length) (match DN c t (.zC e' (xs.getD idx (zn e'))) off x with
     | some r=>match fk e' r with | some y=>.ret (none,st.set b (.arr kP e' (xs.set idx y))) | none=>.fail
     | none=>.fail)
   else .fail
  | _=>.fail
 | _,_=>bad
def rI:(τ:Ty)->den τ->Nat->Option (D×Nat×Nat)
 | .cons a _,x,0=>some (.xe a x.1,0,a.size)
 | .cons a b,x,n+1=>match rI b x.2 n with | some (d,o,s)=>some (d,a.size+o,s) | none=>none
 | .expr,x,0=>some (.xe i64 x.kind,0,1)
 | .expr,x,1=>some (.xe YL x.num,1,3)
 | .expr,x,2=>some (.xe .str x.name,4,1)
 | .expr,x,3=>some (.xe (.sl .expr) x.kids,5,1)
 | _,_,_=>none
def VL(s f:Nat):Option (Nat×Nat):=match c.P.underlying s with
 | some (.struct fs)=>match fs[f]? with
  | some fd=>match iR c fd.type with | some n=>bif Nat.beq n 0 then none else some (fd.offset,n) | none=>none
  | none=>none
 | _=>none
def oL(s f:Nat)(a:Option D):cp:=match VL c s f with
 | none=>bad
 | some (o,n)=>match a with
  | some (.xe τ x)=>match rI τ x f with
   | some (d,o',n')=>bif Nat.beq o o'&&Nat.beq n n' then val d else bad
   | none=>bad
  | some (.ptr b off)=>val (.ptr b (off+o))
  | some (.uQ b qJ e idx off)=>val (.uQ b qJ e idx (off+o))
  | _=>bad
def GC(s f:Nat)(a:Option D):cp:=match c.P.underlying s with
 | some (.struct fs)=>match fs[f]? with
  | some fd=>match a with
   | some d=>z2X (bif d.dJ then EY c fd.type d fd.offset else none)
   | none=>bad
  | none=>bad
 | _=>bad
def asInt:Option D->Option (IntKind×Int)
 | some (.zC (.int k) n)=>some (k,n)
 | _=>none
def VW:Option D->Option zd
 | some (.zC .str s)=>some s
 | _=>none
def asBool:Option D->Option Bool
 | some (.zC .bool b)=>some b
 | _=>none
def il(t:Nat):Option Nat:=match c.P.underlying t with | some (.slice e)=>some e | _=>none
def z7j(t:Nat):Option (Nat×Nat):=match c.P.underlying t with | some (.array n e)=>some (n,e) | _=>none
def J9(t:Nat)(x:Option D)(i:Int):cp:=match z7j c t,x with
 | some (n,et),some (.xe τ y)=>match BG τ with
  | some (e,m)=>bif kX c et e&&Nat.beq n m then .val (.zy (0<=i/\i<(n:Int)) (.ret (some (.xe e (oB e τ y i.toNat)))))else bad
  | none=>bad
 | _,_=>bad
def rJ(t:Nat)(x i:Option D):cp:=match il c t,asInt i with
 | none,some (_,i)=>J9 c t x i
 | some et,some (_,i)=>match x with
  | some (.zC (.sl e) l)=>bif kX c et e then .val (.zy (0<=i/\i<(List.length l:Int)) (.ret (some (.xe e (List.getD l i.toNat (zn e))))))else bad
  | some (.tight e l _)=>bif kX c et e then .val (.zy (0<=i/\i<(List.length l:Int)) (.ret (some (.xe e (List.getD l i.toNat (zn e))))))else bad
  | some (.ms b qJ e off len)=>bif kX c et e then .val (.zy (0<=i/\i<(len:Int)) (.ret (some (.uQ b qJ e (off+i.toNat) 0))))else bad
  | _=>bad
 | _,_=>bad
def Hv(t:Nat)(x i:Option D):cp:=match asInt i,VW x,c.P.underlying t with
 | some (_,i),some s,some .string=>.val (.zy (0<=i/\i<(List.length s:Int)) (.ret (some (.zC (.int .u8) ((List.getD s i.toNat 0).toNat:Int)))))
 | _,_,_=>bad
def Ok(d:Int):Option (Option D)->Option Int
 | none=>some d
 | some x=>match asInt x with | some (_,i)=>some i | none=>none
def qC(l h:Int)(s:zd):zd:=(s.take h.toNat).drop l.toNat
def wi{e:Ty}(l h:Int)(s:List (den e)):List (den e):=(s.take h.toNat).drop l.toNat
def Ha(t:Nat)(x:Option D)(lo hi mx:Option (Option D)):cp:=match x with
 | some (.zC .str s)=>match c.P.underlying t,mx,Ok 0 lo,Ok (List.length s) hi with
  | some .string,none,some l,some h=>.val (.zy (0<=l/\l<=h/\h<=(List.length s:Int)) (.ret (some (.zC .str (qC l h s)))))
  | _,_,_,_=>bad
 | some (.zC (.sl e) s)=>match il c t,Ok 0 lo,Ok (List.length s) hi with
  | some et,some l,some h=>bif kX c et e then match mx with
    | none=>.val (.zy (0<=l/\l<=h/\h<=(List.length s:Int)) (.ret (some (.zC (.sl e) (wi l h s)))))
    | some m=>match asInt m with
     | some (_,m)=>bif hi.isSome then .val (.zy (0<=l/\l<=h/\h=m/\h<=(List.length s:Int)) (.ret (some (.tight e (wi l h s) false))))else bad
     | none=>bad
   else bad
  | _,_,_=>bad
 | some (.tight e s _)=>match il c t,mx,Ok 0 lo,Ok (List.length s) hi with
  | some et,none,some l,some h=>bif kX c et e then .val (.zy (0<=l/\l<=h/\h<=(List.length s:Int)) (.ret (some (.zC (.sl e) (wi l h s)))))else bad
  | _,_,_,_=>bad
 | some (.ms b qJ e off len)=>match il c t,mx,Ok 0 lo,Ok len hi with
  | some et,none,some l,some h=>bif kX c et e then .val (.zy (0<=l/\l<=h/\h<=(len:Int)) (.ret (some (.ms b qJ e (off+l.toNat) (h.toNat-l.toNat)))))else bad
  | _,_,_,_=>bad
 | _=>bad
def ib(k:IntKind)(n:Int):cp:=val (.zC (.int k) n)
def bb(b:Bool):cp:=val (.zC .bool b)
def rB(k:IntKind)(f:BitVec k.bits->BitVec k.bits->BitVec k.bits)(x y:Int):Int:=k.wrap (f (BitVec.ofInt k.bits x) (BitVec.ofInt k.bits y)).toNat
def gp(k:IntKind)(a b:Int):Int:=k.wrap (a*2 ^ (min b.toNat k.bits))
def vd(k:IntKind)(a b:Int):Int:=Int.fdiv a (2 ^ (min b.toNat k.bits))
def EP(op:BinOp)(k:IntKind)(a b:Int):cp:=match op with
 | .add=>ib k (k.wrap (a+b))
 | .sub=>ib k (k.wrap (a-b))
 | .mul=>ib k (k.wrap (a*b))
 | .quo=>.val (.zy (b≠0) (.ret (some (.zC (.int k) (k.wrap (a.tdiv b))))))
 | .rem=>.val (.zy (b≠0) (.ret (some (.zC (.int k) (a.tmod b)))))
 | .and=>ib k (rB k (· &&& ·) a b)
 | .or=>ib k (rB k (· ||| ·) a b)
 | .xor=>ib k (rB k (· ^^^ ·) a b)
 | .eql=>bb (a==b)
 | .neq=>bb (a != b)
 | .lss=>bb (decide (a<b))
 | .leq=>bb (decide (a<=b))
 | .gtr=>bb (decide (b<a))
 | .geq=>bb (decide (b<=a))
 | _=>bad
def zi(a b:zd):Bool:=a==b
def strLt(a b:zd):Bool:=Op.bytesLess a b
def cat(a b:zd):zd:=a++b
def FG(op:BinOp)(a b:zd):cp:=match op with
 | .add=>.val (.zy (a.length+b.length<=4611686018427387904) (.ret (some (.zC .str (cat a b)))))
 | .eql=>bb (zi a b)
 | .neq=>bb (!zi a b)
 | .lss=>bb (strLt a b)
 | .leq=>bb (strLt a b||zi a b)
 | .gtr=>bb (!(strLt a b||zi a b))
 | .geq=>bb (!strLt a b)
 | _=>bad
def PB(op:BinOp)(a b:Bool):cp:=match op with
 | .eql=>bb (a==b)
 | .neq=>bb (!(a==b))
 | _=>bad
def Vw:BinOp->Bool
 | .shl | .shr=>true
 | _=>false
def z3p(a:Ty)(t:Nat):Bool:=match a,c.P.underlying t with
 | .int k,some (.int k')=>decide (k=k')
 | .bool,some .bool=>true
 | .str,some .string=>true
 | _,_=>false
def QB:Ty->Nat->List Field->Bool
 | .nil,_,[]=>true
 | .cons a r,off,f::fs=>decide (f.name ≠ "_")&&(Nat.beq f.offset off&&(z3p c a f.type&&QB r (off+1) fs))
 | _,_,_=>false
def eqT:(τ:Ty)->den τ->den τ->Bool
 | .int _,(a:Int),(b:Int)=>a==b
 | .bool,(a:Bool),(b:Bool)=>a==b
 | .str,(a:zd),(b:zd)=>zi a b
 | .cons a r,(x:den a×den r),(y:den a×den r)=>eqT a x.1 y.1&&eqT r x.2 y.2
 | _,_,_=>true
def Jm(τ:Ty)(t:Nat):Bool:=match c.P.underlying t with
 | some (.struct fs)=>QB c τ 0 fs.toList&&(!(c.P.stoodInHeld t) && !(c.P.eqGuardType c.P.depth t))
 | _=>false
def RX(op:BinOp)(t:Nat)(x y:Option D):cp:=match x,y with
 | some (.zC τ a),some (.zC σ b)=>match(vN b:Option (den τ))with
  | some b=>bif τ.isAgg&&Jm c τ t then(match op with
   | .eql=>bb (eqT τ a b)
   | .neq=>bb (!eqT τ a b)
   | _=>bad)else bad
  | none=>bad
 | _,_=>bad
def FZ(op:BinOp)(t:Nat)(x y:Option D):cp:=match asInt x,asInt y with
 | some (k,a),some (k',b)=>match op with
  | .shl=>.val (.zy (0<=b) (.ret (some (.zC (.int k) (gp k a b)))))
  | .shr=>.val (.zy (0<=b) (.ret (some (.zC (.int k) (vd k a b)))))
  | op=>bif decide (k=k')then EP op k a b else bad
 | _,_=>match VW x,VW y with
  | some a,some b=>bif Vw op then bad else FG op a b
  | _,_=>match c.P.underlying t,asBool x,asBool y with
   | some .bool,some a,some b=>PB op a b
   | _,_,_=>RX c op t x y
def HR(op:BinOp)(t:Nat)(x:Option D):cp:=match c.P.underlying t with
 | some (.interface _)=>match op,x with
  | .eql,some .xh=>bb true
  | .eql,some (.iface _ _)=>bb false
  | .neq,some .xh=>bb false
  | .neq,some (.iface _ _)=>bb true
  | _,_=>bad
 | _=>bad
def nQ(x:Option D)(at':Nat)(ok:Bool):cp:=match c.P.underlying at' with
 | some (.interface _)=>bad
 | none=>bad
 | some _=>match x with
  | some (.iface t d)=>bif Nat.beq t at'&&ok then val (.gz [d,.zC .bool true])else bad
  | _=>bad
def EU(op:BinOp)(t:Nat)(p:Operand)(x y:Option D):cp:=match p with
 | .const .nilIface=>HR c op t x
 | _=>FZ c op t x y
def SB(op:UnOp)(x:Option D):cp:=match op with
 | .neg=>match asInt x with | some (k,n)=>ib k (k.wrap (0-n)) | none=>bad
 | .not=>match asBool x with | some b=>bb (!b) | none=>bad
 | .xor=>match asInt x with | some (k,n)=>ib k (rB k (· ^^^ ·) (if k.signed then -1 else k.max) n) | none=>bad
 | _=>bad
def byteOf(n:Int):UInt8:=UInt8.ofNat n.toNat
def D9(e:Ty):D->Option (List (den e))
 | .zC σ y=>vN (a:=σ) (b:=.sl e) y
 | .tight e' y _=>vN (a:=.sl e') (b:=.sl e) y
 | .xE=>some []
 | _=>none
def qO(l:List Int):zd:=l.map byteOf
def XA(e:Nat)(x:Option D):cp:=match c.P.underlying e,x with
 | some (.int .u8),some d=>.rd λst=>(nY st d).bind λy=>match D9 (.int .u8) y with
  | some l=>.ret (some (.zC .str (qO l)))
  | none=>.fail
 | _,_=>bad
def convertOp(s t:Nat)(x:Option D):cp:=match c.P.underlying s,c.P.underlying t with
 | some (.slice e),some .string=>XA c e x
 | some (.int _),some (.int k)=>match asInt x with | some (_,n)=>ib k (k.wrap n) | none=>bad
 | some .string,some .string=>match VW x with | some s=>val (.zC .str s) | none=>bad
 | _,_=>bad
def RR(t:Nat)(x:Option D):cp:=match c.P.underlying t with
 | some (.slice _)=>match x with
  | some (.zC (.sl _) l)=>ib .i64 (List.length l)
  | some (.tight _ l _)=>ib .i64 (List.length l)
  | some .xE=>ib .i64 0
  | some (.ms _ _ _ _ len)=>ib .i64 (len:Nat)
  | _=>bad
 | some .string=>match VW x with
  | some s=>ib .i64 (List.length s)
  | none=>bad
 | _=>bad
def ex(e:Ty){e':Ty}(xs:List (den e')):Option (List (den e)):=vN (a:=.sl e') (b:=.sl e) xs
def mD(e:Ty)(l ys:List (den e))(bytes:Nat)(st:St):T (Option D×St) :=
 .zy ((l.length+ys.length)*bytes<=140737488355328) (.ret (some (.ms st.length (l.length+ys.length) e 0 (l.length+ys.length)),st++[.arr (l.length+ys.length) e (l++ys)]))
def kl(e:Ty)(s:D)(ys:List (den e))(ne:Bool)(bytes:Nat)(st:St):T (Option D×St):=match s with
 | .xE=>bif ne then mD e [] ys bytes st else .ite ys.isEmpty (.ret (some s,st)) (mD e [] ys bytes st)
 | .tight e' l _=>match ex e l with
  | some l=>bif ne then mD e l ys bytes st else .ite ys.isEmpty (.ret (some s,st)) (mD e l ys bytes st)
  | none=>.fail
 | .ms b qJ e' off len=>match st[b]? with
  | some (.arr kP e'' xs)=>match ex e xs with
   | some xs=>bif decide (e'=e)then .zy (qJ=kP/\off=0/\len=xs.length/\(xs.length+ys.length)*bytes<=140737488355328)
     (.ret (some (.ms b (qJ+ys.length) e 0 (len+ys.length)),st.set b (.arr (qJ+ys.length) e (xs++ys))))else .fail
   | none=>.fail
  | _=>.fail
 | _=>.fail
def zeroOf(et:Nat)(e:Ty):Option (den e):=match WS c et with | some z=>fk e z | none=>none
def QP(t:Nat)(s x:Option D):cp:=match il c t with
 | none=>bad
 | some et=>match B5 c 20 et,mS c et with
  | some e,some bytes=>bif kX c et e&&Nat.blt 0 e.size&&Nat.blt 0 bytes&&(zeroOf c et e).isSome then match s,x with
    | some s,some x=>.wr λst=>(nY st x).bind λx=>match x with
     | .zC _ y=>match(vN y:Option (den (.sl e)))with
      | some ys=>kl e s ys false bytes st
      | none=>.fail
     | .tight _ y ne=>match ex e y with
      | some ys=>kl e s ys ne bytes st
      | none=>.fail
     | .xE=>kl e s [] false bytes st
     | _=>.fail
    | _,_=>bad
   else bad
  | _,_=>bad
def bytesOf(s:zd):List Int:=s.map λb=>((b.toNat:Nat):Int)
def sn(t t':Nat)(s x:Option D):cp:=match il c t with
 | none=>bad
 | some et=>match B5 c 20 et,mS c et,c.P.underlying t' with
  | some (.int .u8),some bytes,some .string=>bif kX c et (.int .u8)&&Nat.blt 0 bytes&&(zeroOf c et (.int .u8)).isSome then match s,x with
    | some s,some (.zC .str l)=>.wr λst=>kl (.int .u8) s (bytesOf l) false bytes st
    | _,_=>bad
   else bad
  | _,_,_=>bad
def I4(t:Nat)(n m:Option D):cp:=match il c t,asInt n,asInt m with
 | some et,some (_,n),some (_,m)=>match B5 c 20 et,mS c et with
  | some e,some bytes=>match zeroOf c et e with
   | some z=>bif kX c et e&&Nat.blt 0 e.size then
     .wr λst=>.zy (0<=n/\n<=m/\m*bytes<=140737488355328/\m<=140737488355328) (.ret (some (.ms st.length n.toNat e 0 n.toNat),st++[.arr n.toNat e (List.replicate n.toNat z)]))
    else bad
   | none=>bad
  | _,_=>bad
 | _,_,_=>bad
def Gm(e:Ty):Nat->List (Nat×Option D)->Option (List (den e))
 | _,[]=>some []
 | i,(j,some d)::r=>bif Nat.beq i j then match fk e d,Gm e (i+1) r with
   | some x,some l=>some (x::l)
   | _,_=>none
  else none
 | _,_=>none
def mK(t n:Nat)(ps:List (Nat×Option D)):cp:=match il c t with
 | none=>bad
 | some et=>match B5 c 20 et with
  | some e=>bif kX c et e&&Nat.beq n ps.length&&Nat.ble n 1000&&Nat.ble e.size 100&&(zeroOf c et e).isSome then match Gm e 0 ps with
    | some l=>bif Nat.beq n 0&&Nat.blt 0 e.size then .wr λst=>.ret (some (.ms st.length 0 e 0 0),st++[.arr 0 e []])else val (.tight e l (!Nat.beq n 0))
    | none=>bad
   else bad
  | none=>bad
def eO(places:List (Nat×Nat)):List (Nat×Option D)->List D->Option (List D)
 | [],cells=>some cells
 | (i,some d)::r,cells=>match places[i]? with
  | some (off,n)=>bif !d.jf&&Nat.beq n (qm d).length&&Nat.ble (off+n) cells.length then
     eO places r (cells.take off++qm d++cells.drop (off+n))else none
  | none=>none
 | _,_=>none
def He(t:Nat)(ps:List (Nat×Option D)):cp:=match c.P.underlying t with
 | some (.struct fs)=>match WS c t,fs.toList.mapM (λf=>(c.P.info? f.type).map λi=>(f.offset,i.size))with
  | some (.agg z),some places=>match eO places ps z with
   | some l=>val (.agg l)
   | none=>bad
  | _,_=>bad
 | some (.array k e)=>match WS c t,c.P.info? e with
  | some (.agg z),some ie=>match eO ((List.range k).map λi=>(i*ie.size,ie.size)) ps z with
   | some l=>val (.agg l)
   | none=>bad
  | _,_=>bad
 | _=>bad
def XI(x:Option D)(i:Nat):cp:=match x with
 | some (.gz vs)=>z2X vs[i]?
 | _=>bad
def yS:List D->D
 | [d]=>d
 | ds=>.gz ds
def Ty.scalar:Ty->Bool
 | .int _ | .bool | .str=>true
 | .cons a b=>a.scalar&&b.scalar
 | .nil=>true
 | _=>false
def s7:D->Bool
 | .zC τ _=>τ.scalar
 | _=>false
def nS(st:St)(τ:Ty):D->T D
 | .xe _ x=>match(vN x:Option (den τ))with | some y=>.ret (.xe τ y) | none=>.fail
 | .ptr b off=>match st[b]? with
  | some (.var d)=>match bif Nat.beq off 0 then fk τ d else none with | some y=>.ret (.xe τ y) | none=>.fail
  | _=>.fail
 | _=>.fail
def ru(st:St):Xw->D->T D
 | .im τ,d=>(Q3 st τ d).bind λx=>.ret (.zC τ x)
 | .rp τ,d=>nS st τ d
def cR(st:St):List Xw->List D->T (List D)
 | [],[]=>.ret []
 | p::r,d::ds=>(ru st p d).bind λx=>(cR st r ds).bind λl=>.ret (x::l)
 | _,_=>.fail
def Cq(st:St):ZH->D->T D
 | .ty τ,d=>(Q3 st τ d).bind λx=>.ret (.zC τ x)
 | .rp τ,d=>nS st τ d
 | .xk f caps,.xk f' l=>bif Nat.beq f f' then(cR st caps l).bind λl=>.ret (.xk f l)else .fail
 | _,_=>.fail
def o7(st:St):List ZH->List D->T (List D)
 | [],[]=>.ret []
 | p::r,d::ds=>(Cq st p d).bind λx=>(o7 st r ds).bind λl=>.ret (x::l)
 | _,_=>.fail
def z6M:D->Bool | .ptr .. => true | _=>false
def Jr:D->Bool
 | .agg cs=>cs.any YA
 | .xk _ l=>l.any λd=>YA d||z6M d
 | .ptr .. => true
 | d=>YA d
def S0(r:Gy×St):T (Option D):=match r with
 | (.ret ds,[])=>.ret (some (yS ds))
 | _=>.fail
def sM(r:Gy×St):T (Option D):=match r with
 | (.ret ds,[])=>bif ds.all s7 then .ret (some (yS ds))else .fail
 | _=>.fail
def bz(g:Nat)(s:Sig)(args:List D):cp :=
 bif !(args.any Jr)then .val ((o7 [] s.params args).bind λl=>(c.fn g l []).bind S0)
 else .rd λst=>(o7 st s.params args).bind λl=>(c.fn g l []).bind sM
def sY(g:Nat)(args:List D):cp:=.wr λst=>(c.fn g args st).bind λr=>match r.1 with
 | .ret ds=>.ret (some (yS ds),r.2)
 | .ye _=>.fail
def yZ(g:Nat):Nat:=bif Nat.ble 1000000 g then g % 1000000 else g
def jT{α:Type}(g:Nat)(l caps:List α):List α:=bif Nat.ble 1000000 g then caps++l else l++caps
def dD(f:Option D)(args:List (Option D)):cp:=match f,uY args with
 | some (.xk g caps),some l=>match c.sig (yZ g) (jT g l caps)with
  | some s=>bz c (yZ g) s (jT g l caps)
  | none=>sY c (yZ g) (jT g l caps)
 | _,_=>bad
def Vi(a b:Int):Int:=if b<a then b else a
def ng(a b:Int):Int:=if a<b then b else a
def Uo(f:Int->Int->Int)(args:List (Option D)):cp:=match args with
 | [x,y]=>match asInt x,asInt y with
  | some (k,a),some (k',b)=>bif decide (k=k')then ib k (f a b)else bad
  | _,_=>bad
 | _=>bad
def yg{α:Type}(off len:Nat)(xs l:List α):List α:=xs.take off++l.take len++xs.drop (off+min len l.length)
def PN(k:IntKind)(b qJ off len:Nat)(l:List Int)(st:St):T (Option D×St):=match st[b]? with
 | some (.arr kP e' xs)=>match ex (.int k) xs with
  | some xs=>.zy (qJ=kP/\off+len<=List.length xs) (.ret (some (.zC i64 ((min len l.length:Nat):Int)),st.set b (.arr kP (.int k) (yg off len xs l))))
  | none=>.fail
 | _=>.fail
def Fm(t:Nat)(s x:Option D):cp:=match il c t with
 | some et=>match c.P.underlying et,iR c et,s,x with
  | some (.int k),some 1,some (.ms b qJ (.int k') off len),some d=>bif decide (k'=k)then .wr λst=>(nY st d).bind λy=>match D9 (.int k) y with
    | some l=>PN k b qJ off len l st
    | none=>.fail
   else bad
  | _,_,_,_=>bad
 | none=>bad
def lP(b:Builtin)(ts:List Nat)(args:List (Option D)):cp:=match b,ts,args with
 | .len,t::_,x::_=>RR c t x
 | .append,[t,t'],[s,x]=>bif Nat.beq t t' then QP c t s x else sn c t t' s x
 | .copy,[t,_],[s,x]=>Fm c t s x
 | .min,_,args=>Uo Vi args
 | .max,_,args=>Uo ng args
 | _,_,_=>bad
def jc(fr:Fr):Operand->Option D
 | .tmp t=>fr.get t
 | .const v=>WG v
 | .global _=>none
 | .func f=>bif Nat.blt f 1000000 then some (.xk f [])else none
def Z6(x:Option D):cp:=match x with
 | some (.ptr b o)=>val (.ptr b o)
 | some (.xe τ x)=>val (.xe τ x)
 | some (.uQ b v e i o)=>val (.uQ b v e i o)
 | some (.xk f l)=>val (.xk f l)
 | _=>bad
def I7(x a b:Option D):cp:=match asBool x with
 | some x=>.val (.ite x (.ret a) (.ret b))
 | none=>bad
def rk(t:Nat)(x:Option D):cp:=match c.P.underlying t with
 | some (.interface _) | none=>bad
 | some _=>match x with | some d=>val (.iface t d) | none=>bad
def SP(x:Option D):cp:=match x with
 | some d=>bif d.jf||d.typed.isSome then bad else .wr λst=>.ret (some (.ptr st.length 0),st++[.var d])
 | none=>bad
def Rz(t:Nat)(x:Option D):cp:=match x with
 | some (.zC τ x)=>val (.xe τ x)
 | some d=>match B5 c 20 t with
  | some τ=>match fk τ d with | some x=>val (.xe τ x) | none=>bad
  | none=>bad
 | none=>bad
def zdB:Option Nat->Bool
 | some s=>c.ro s
 | none=>false
def z0u(t:Nat)(dst:Option Nat)(x:Option D):cp:=bif zdB c dst then Rz c t x else SP x
def nE(t:Nat):cp:=match WS c t with
 | some d=>.wr λst=>.ret (some (.ptr st.length 0),st++[.var d])
 | none=>bad
def qN(ρ:Operand->Option D)(o:Oper):cp:=match o.op with
 | .move x | .assign x=>.val (.ret (ρ x))
 | .pick x a b=>I7 (ρ x) (ρ a) (ρ b)
 | .alloc t=>nE c t
 | .box t x=>z0u c t o.dst (ρ x)
 | .load t a=>UT c t (ρ a)
 | .store t a v=>VS c t (ρ a) (ρ v)
 | .nilCheck x=>Z6 (ρ x)
 | .binOp op t x y _=>EU c op t y (ρ x) (ρ y)
 | .typeAssert x _ t ok=>nQ c (ρ x) t ok
 | .unOp op _ x=>SB op (ρ x)
 | .convert s t x=>convertOp c s t (ρ x)
 | .makeInterface t x=>rk c t (ρ x)
 | .makeFunc (.func f) first cap=>bif Nat.beq first.size 0&&Nat.blt f 1000000 then match uY (cap.toList.map ρ)with | some l=>val (.xk f l) | none=>bad
   else bif Nat.beq cap.size 0&&Nat.blt f 1000000 then match uY (first.toList.map ρ)with | some l=>val (.xk (f+1000000) l) | none=>bad else bad
 | .makeSlice t l m=>I4 c t (ρ l) (ρ m)
 | .slice t x lo hi mx=>Ha c t (ρ x) (lo.map ρ) (hi.map ρ) (mx.map ρ)
 | .fieldAddr s x f=>oL c s f (ρ x)
 | .field s x f=>GC c s f (ρ x)
 | .indexAddr t x i=>rJ c t (ρ x) (ρ i)
 | .index t x i=>Hv c t (ρ x) (ρ i)
 | .extract x i=>XI (ρ x) i
 | .build t ps=>He c t (ps.toList.map λp=>(p.1,ρ p.2))
 | .buildSlice t n ps=>mK c t n (ps.toList.map λp=>(p.1,ρ p.2))
 | .call cl=>match cl.callee with
  | .builtin b=>lP c b cl.argTypes.toList (cl.args.toList.map ρ)
  | .value f=>dD c (ρ f) (cl.args.toList.map ρ)
  | .invoke _ _=>bad
 | _=>bad
def zR:cp->St->T (Option D×St)
 | .val t,st=>t.bind λd=>.ret (d,st)
 | .rd k,st=>(k st).bind λd=>.ret (d,st)
 | .wr k,st=>k st
end ops
end Go.AM
namespace Go.AM
def cp.kind:cp->Nat
 | .val _=>0
 | .rd _=>1
 | .wr _=>2
def jb(ops:Array Oper)(j:Nat):Option Nat:=match ops[j]? with | some o=>o.dst | none=>none
def Nv:D:=.gz []
def uk(n:Nat):Option Nat->Bool
 | some t=>Nat.blt t n
 | none=>true
section
variable (c:Ctx)
variable [tn]
def dH(kn:Kn):Operand->Option Bool
 | .tmp t=>kn.get t
 | .const (.bool b)=>some b
 | _=>none
def Kc(kn:Kn):Op->Option Bool
 | .move x | .assign x=>dH kn x
 | .pick x a b=>match dH kn x with
  | some true=>dH kn a
  | some false=>dH kn b
  | none=>none
 | _=>none
def nW(kn:Kn)(fr:Fr)(o:Oper):cp:=match o.op with
 | .pick x a b=>match dH kn x with
  | some true=>.val (.ret (jc fr a))
  | some false=>.val (.ret (jc fr b))
  | none=>qN c (jc fr) o
 | _=>qN c (jc fr) o
def Kq(kn:Kn)(dst:Option Nat)(b:Option Bool):Kn:=match dst with | some t=>(t,b)::kn | none=>kn
inductive RK where
 | z (k:Nat) | rd (b:Nat) | wr (free:List Nat) | up (b:Nat)
def RK.base:RK->Nat
 | .z k=>k
 | .rd _=>1
 | .wr _=>2
 | .up _=>2
def others(n:Nat)(l:List Nat):List Nat:=(List.range n).filter λb => !(l.any (Nat.beq b))
def z7N(d:Option D):Option Nat:=match d with
 | some d=>match d with
  | .ptr b _=>some b
  | .uQ b _ _ _ _=>some b
  | _=>none
 | none=>none
def MQ(bi:Builtin)(l:List (Option D)):RK:=match bi with
 | .append=>match l with | [some (.ms b _ _ _ _),some x]=>bif YA x then .z 2 else .up b | _=>.z 2
 | _=>.z 2
def wz(ρ:Operand->Option D)(st:St)(o:Oper):RK:=match(qN c ρ o).kind with
 | 1=>match o.op with
  | .load _ a=>match z7N (ρ a)with | some b=>.rd b | none=>.z 1
  | _=>.z 1
 | 2=>match o.op with
  | .alloc _=>.wr (others st.length [])
  | .store _ a _=>match z7N (ρ a)with | some b=>.up b | none=>.z 2
  | .call cl=>match cl.callee with
   | .value f=>match ρ f,uY (cl.args.toList.map ρ)with | some (.xk g caps),some l=>.wr (c.free (yZ g) (jT g l caps) st) | _,_=>.z 2
   | .builtin bi=>MQ bi (cl.args.toList.map ρ)
   | _=>.z 2
  | _=>.z 2
 | k=>.z k
structure dU where
 fr:Fr
 kn:Kn
 st:St
 ks:List Nat      -- kinds of what has run,the last first
 bk:List RK
def bn(n:Nat)(o:Oper)(s:dU):T dU :=
 bif uk n o.dst then
  let cl:=nW c s.kn s.fr o
  (zR cl s.st).bind λr=>.ret ⟨s.fr.put o.dst r.1,Kq s.kn o.dst (Kc s.kn o.op),r.2,cl.kind::s.ks,wz c (jc s.fr) s.st o::s.bk⟩
 else .fail
def jV(o:Oper)(s:dU):dU:=⟨s.fr.put o.dst (some Nv),Kq s.kn o.dst none,s.st,0::s.ks,.z 0::s.bk⟩
def dU.ca(s:dU)(t:Nat)(b:Bool):dU:={ s with kn:=(t,some b)::s.kn }
def stepG(n:Nat)(ops:Array Oper)(o:Oper)(s:dU):T dU:=match o.guard with
 | none=>bn c n o s
 | some (j,want)=>match jb ops j with
  | none=>.fail
  | some t=>match s.kn.get t with
   | some b=>bif b==want then bn c n o s else bif uk n o.dst then .ret (jV o s)else .fail
   | none=>match s.fr.get t with
    | some (.zC .bool x)=>bif uk n o.dst then
      .ite x (bif want then bn c n o (s.ca t true)else .ret (jV o (s.ca t true)))
          (bif want then .ret (jV o (s.ca t false))else bn c n o (s.ca t false))
     else .fail
    | some (.gz [])=>bif uk n o.dst then .ret (jV o s)else .fail
    | _=>.fail
def lH(n:Nat)(ops:Array Oper):List Oper->dU->T dU
 | [],s=>.ret s
 | o::l,s=>(stepG c n ops o s).bind λs'=>lH n ops l s'
def tmpsOf(ops:Array Oper)(o:Oper):List Nat :=
 (match o.dst with | some d=>[d] | none=>[]) ++
 (match o.guard with | some (j,_)=>(match jb ops j with | some s=>[s] | none=>[]) | none=>[]) ++
 o.op.operands.toList.filterMap λ| .tmp t=>some t | _=>none
def xz(l:List Oper):List Nat->List Nat
 | acc=>match l with
  | []=>acc
  | o::r=>xz r (acc++[o.after.toList.foldl (λs e=>bif Region.binds .any e then s ||| 2 ^ e.on ||| acc.getD e.on 0 else s) 0])
def ordered(bs:List Nat)(i j:Nat):Bool:=Nat.testBit (bs.getD j 0) i
def uV(k l:Nat):Bool:=(Nat.beq k 2 && !Nat.beq l 0)||(Nat.beq l 2 && !Nat.beq k 0)
def Fq{K:Type}(cl:K->K->Bool)(bs:List Nat)(xs:List (Nat×Option Nat×List Nat×K))(j:Nat)(dj:Option Nat)(tj:List Nat)(kj:K):Bool :=
 xs.all λx=>ordered bs x.1 j||(!(match x.2.1 with | some d=>tj.contains d | none=>false) && !(match dj with | some d=>x.2.2.1.contains d | none=>false) && !cl x.2.2.2 kj)
def mP{K:Type}(cl:K->K->Bool)(ops:Array Oper)(bs:List Nat):List Oper->List K->Nat->List (Nat×Option Nat×List Nat×K)->Bool
 | [],_,_,_=>true
 | o::l,k::ks,j,xs=>let tj:=tmpsOf ops o; Fq cl bs xs j o.dst tj k&&mP cl ops bs l ks (j+1) ((j,o.dst,tj,k)::xs)
 | _,_,_,_=>false
def bO:List Oper->Nat->Bool
 | [],_=>true
 | o::l,j=>o.after.toList.all (λe => !Region.binds .any e||Nat.blt e.on j)&&bO l (j+1)
def LP(ops:Array Oper)(ks:List Nat):Bool :=
 let l:=ops.toList
 bO l 0&&mP uV ops (xz l []) l ks 0 []
def Vg(o:Oper):Bool:=(match o.op with | .alloc _=>true | _=>false)&&o.guard.isNone&&o.dst.isSome
def JH:List Oper->List Nat->List Nat
 | o::l,k::ks=>(bif Vg o then 3 else k)::JH l ks
 | _,_=>[]
def rF(k l:Nat):Bool:=bif Nat.beq k 3&&Nat.beq l 3 then false else uV (bif Nat.beq k 3 then 2 else k) (bif Nat.beq l 3 then 2 else l)
def Je:List Oper->Nat->List Nat
 | [],_=>[]
 | o::l,i=>bif Vg o then i::Je l (i+1)else Je l (i+1)
def DQ(bs al:List Nat)(n:Nat):Bool:=(List.range n).all λj => !(al.any λp=>ordered bs p j)||al.all λp=>ordered bs p j
def MM(ops:Array Oper)(ks:List Nat):Bool :=
 let l:=ops.toList
 bO l 0&&(ks.all λk=>Nat.ble k 2)&&mP rF ops (xz l []) l (JH l ks) 0 []&&DQ (xz l []) (Je l 0) l.length
def uU:RK->RK->Bool
 | .rd b,.wr A => !(A.any (Nat.beq b))
 | .wr A,.rd b => !(A.any (Nat.beq b))
 | .rd b,.up a=>Nat.beq a b
 | .up a,.rd b=>Nat.beq a b
 | .up a,.up b=>Nat.beq a b
 | x,y=>uV x.base y.base
def LX(ops:Array Oper)(ks:List RK):Bool :=
 let l:=ops.toList
 bO l 0&&mP uU ops (xz l []) l ks 0 []
def ZB(ops:Array Oper)(ks:List Nat)(bk:List RK):Bool:=LP ops ks||MM ops ks||LX ops bk
def cI(n:Nat)(ops:Array Oper)(draw:Bool)(fr:Fr)(kn:Kn)(st:St):T dU :=
 (lH c n ops ops.toList ⟨fr,kn,st,[],[]⟩).bind λs=>bif !draw||ZB ops s.ks.reverse s.bk.reverse then .ret s else .fail
structure zfB where
 ex:Ex
 fr:Fr
 kn:Kn
 st:St
structure zf4 where
 ex:Ex
 out:List (Nat×D)
 st:St
abbrev zax:=Nat->Fr->St->T zf4
def z8a(l:List (Nat×D)):Fr:=l.map λp=>(p.1,some p.2)
def ev(n:Nat)(L:zax):Code->Fr->Kn->St->T zfB
 | .skip,fr,kn,st=>.ret ⟨.normal,fr,kn,st⟩
 | .region _ ops draw,fr,kn,st=>(cI c n ops draw fr kn st).bind λs=>.ret ⟨.normal,s.fr,s.kn,s.st⟩
 | .seq a b,fr,kn,st=>(ev n L a fr kn st).bind λr=>match r.ex with
  | .normal=>ev n L b r.fr r.kn r.st
  | _=>.ret r
 | .cond x a b,fr,kn,st=>match dH kn x with
  | some true=>ev n L a fr kn st
  | some false=>ev n L b fr kn st
  | none=>match x with
   | .tmp t=>match fr.get t with
    | some (.zC .bool v)=>.ite v (ev n L a fr ((t,some true)::kn) st) (ev n L b fr ((t,some false)::kn) st)
    | _=>.fail
   | _=>.fail
 | .block id (.loop _),fr,_,st=>(L id fr st).bind λr=>match r.ex with
   | .exit id'=>bif Nat.beq id' id then .ret ⟨.normal,z8a r.out,[],r.st⟩else .ret ⟨.exit id',z8a r.out,[],r.st⟩
   | .normal=>.fail
   | x=>.ret ⟨x,z8a r.out,[],r.st⟩
 | .block id a,fr,kn,st=>(ev n L a fr kn st).bind λr=>match r.ex with
  | .exit id'=>bif Nat.beq id' id then .ret { r with ex:=.normal } else .ret r
  | _=>.ret r
 | .exit id,fr,kn,st=>.ret ⟨.exit id,fr,kn,st⟩
 | .ret,fr,kn,st=>.ret ⟨.ret,fr,kn,st⟩
 | _,_,_,_=>.fail
def wL:List D->Nat->Fr
 | [],_=>[]
 | d::r,i=>(i,some d)::wL r (i+1)
def cj(fr:Fr)(st:St):List ResultVar->T (List D)
 | []=>.ret []
 | .tmp t::r=>match fr.get t with
  | some d=>(cj fr st r).bind λl=>.ret (d::l)
  | none=>.fail
 | .cell a t::r=>match fr.get a with
  | some (.ptr b off)=>match st[b]? with
   | some (.var d)=>match EY c t d off with
    | some x=>(cj fr st r).bind λl=>.ret (x::l)
    | none=>.fail
   | _=>.fail
  | _=>.fail
def ug(n:Nat):D->Bool
 | .ptr b _=>Nat.blt b n
 | .yt b _=>Nat.blt b n
 | .uQ b .. => Nat.blt b n
 | .ms b .. => Nat.blt b n
 | .xk .. | .agg _ | .gz _ | .iface .. => false
 | _=>true
def bB(n:Nat):D->Bool
 | .xk _ l=>l.all (ug n)
 | .agg l=>l.all (ug n)
 | .iface _ d=>ug n d
 | d=>ug n d
def B0(n:Nat):yj->Bool
 | .var d=>bB n d
 | _=>true
end
end Go.AM
namespace Go.AM
open Go.RowKit
inductive Rc(w:World)(ok:Nat->Prop):(τ:Ty)->den τ->List Value->Prop
 | int (k:IntKind) (n:Int):Rc w ok (.int k) n [.int k n]
 | bool (b:Bool):Rc w ok .bool b [.bool b]
 | str (s:zd):Rc w ok .str s [.string ⟨s.toArray⟩]
 | lj (e:Ty) (a:Option Addr):Rc w ok (.sl e) ([]:List (den e)) [.slice a 0 0]
 | sl (e:Ty) (l:List (den e)) (blk off cap:Nat) (f:Nat->List Value) (wI:ok blk) (vJ:l.length<=cap)
   (h:∀ i (hi:i<l.length),Rc w ok e l[i] (f i))
   (hc:∀ i,i<l.length->∀ j v,(f i)[j]? = some v->w.cell? ⟨blk,off+i*e.size+j,none⟩=some v) :
   Rc w ok (.sl e) l [.slice (some ⟨blk,off,none⟩) l.length cap]
 | nil:Rc w ok .nil () []
 | cons (a b:Ty) (x:den a) (y:den b) (c1 c2:List Value) (h1:Rc w ok a x c1) (h2:Rc w ok b y c2):Rc w ok (.cons a b) (x,y) (c1++c2)
 | expr (k:Int) (n:den YL) (s:zd) (l:List Expr) (cs:List Value) (h:Rc w ok WI (k,n,s,l,()) cs):Rc w ok .expr (.mk k n s l) cs
def Eh(w w':World)(ok W9:Nat->Prop):Prop:=∀ k,ok k->W9 k/\w'.heap[k]? = w.heap[k]?
theorem cG{w w':World}{a:Addr}(h:w'.heap[a.block]? = w.heap[a.block]?):w'.cell? a=w.cell? a:=by simp[World.cell?,h]
section
variable {w w':World} {ok W9:Nat->Prop}
theorem Rc.mono{τ:Ty}{x:den τ}{cs:List Value}(hs:Eh w w' ok W9)(h:Rc w ok τ x cs):Rc w' W9 τ x cs:=by
 induction h with
 | int k n=>exact .int k n
 | bool b=>exact .bool b
 | str s=>exact .str s
 | lj e a=>exact .lj e a
 | sl e l blk off cap f wI vJ h hc ih=>exact .sl e l blk off cap f (hs _ wI).1 vJ ih λi hi j v hv=>by rw[cG (hs _ wI).2]; exact hc i hi j v hv
 | nil=>exact .nil
 | cons a b x y c1 c2 h1 h2 i1 i2=>exact .cons a b x y c1 c2 i1 i2
 | expr k n s l cs h ih=>exact .expr k n s l cs ih
theorem Rc.len{τ:Ty}{x:den τ}{cs:List Value}(h:Rc w ok τ x cs):cs.length=τ.size:=by
 induction h with
 | cons a b x y c1 c2 h1 h2 i1 i2=>simp[Ty.size,i1,i2]
 | expr k n s l cs h ih=>simpa[Ty.size]using ih
 | _=>rfl
theorem Rc.one{τ:Ty}{x:den τ}{cs:List Value}(h:Rc w ok τ x cs):∀ v∈cs,v.oneCell'=true:=by
 induction h with
 | cons a b x y c1 c2 h1 h2 i1 i2=>grind
 | expr k n s l cs h ih=>exact ih
 | _=>intro v hv; simp at hv; try (subst hv; rfl)
theorem Rc.yW{k:IntKind}{n:Int}{cs:List Value}(h:Rc w ok (.int k) n cs):cs=[.int k n]:=by cases h; rfl
theorem Rc.kN{n:Bool}{cs:List Value}(h:Rc w ok .bool n cs):cs=[.bool n]:=by cases h; rfl
theorem Rc.vc{n:zd}{cs:List Value}(h:Rc w ok .str n cs):cs=[.string ⟨n.toArray⟩]:=by cases h; rfl
theorem Rc.cons_inv{a b:Ty}{x:den (.cons a b)}{cs:List Value}(h:Rc w ok (.cons a b) x cs):∃ c1 c2,cs=c1++c2/\Rc w ok a x.1 c1/\Rc w ok b x.2 c2:=by
 cases h with | cons _ _ x y c1 c2 h1 h2=>exact⟨c1,c2,rfl,h1,h2⟩
theorem Rc.ql{x:den .nil}{cs:List Value}(h:Rc w ok .nil x cs):cs=[]:=by cases h; rfl
theorem Rc.D7{x:Expr}{cs:List Value}(h:Rc w ok .expr x cs):Rc w ok WI x.TA cs:=by cases h with | expr k n s l cs h=>exact h
theorem Rc.XK{e:Ty}{l:List (den e)}{cs:List Value}(h:Rc w ok (.sl e) l cs):(l=[]/\∃ a,cs=[.slice a 0 0]) \/
  ∃ (blk off cap:Nat) (f:Nat->List Value),cs=[.slice (some ⟨blk,off,none⟩) l.length cap]/\ok blk/\l.length<=cap/\(∀ i (hi:i<l.length),Rc w ok e l[i] (f i)) /\
   (∀ i,i<l.length->∀ j v,(f i)[j]? = some v->w.cell? ⟨blk,off+i*e.size+j,none⟩=some v):=by
 cases h with
 | lj _ a=>simp
 | sl _ _ blk off cap f wI vJ h hc=>exact .inr ⟨blk,off,cap,f,rfl,wI,vJ,h,hc⟩
end
def pk(τ:Ty)(cs:List Value):Value:=if τ.isAgg then .agg cs.toArray else cs.headD undef
structure KS where
 w:World
 ok:Nat->Prop
 ph:List (Option (Nat×Nat))
 st:St
def M5(ph:List (Option (Nat×Nat)))(b zfc:Nat)(e:Ty)(off len:Nat)(v:Value):Prop :=
 off+len<=zfc/\((len=0/\off=0/\v=.slice none 0 0/\ph[b]? = some none) \/
  ∃ (blk n o cap:Nat),ph[b]? = some (some (blk,n))/\v=.slice (some ⟨blk,o,none⟩) len cap/\len<=cap/\(off+cap)*e.size<=n/\(cap=0\/o=off*e.size))
def Old(st:St)(b qJ:Nat):Prop:=st[b]? = some .dead\/∃ (v0:Nat) (e0:Ty) (Zd:List (den e0)),st[b]? = some (.arr v0 e0 Zd)/\qJ<=v0
def D.one:D->Bool
 | .zC τ _ => !τ.isAgg
 | .agg _ | .gz _=>false
 | _=>true
def oj(f:Nat)(vs:List Value):Value:=bif Nat.ble 1000000 f then .func (.func (f % 1000000)) vs.toArray #[]else .func (.func f) #[] vs.toArray
theorem HE{f:Nat}(h:Nat.blt f 1000000=true)(vs:List Value):oj f vs=.func (.func f) #[] vs.toArray:=by
 have:Nat.ble 1000000 f=false:=by
  cases hb:Nat.ble 1000000 f with
  | false=>rfl
  | true=>have h1:=Nat.le_of_ble_eq_true hb; have h2:=Nat.le_of_ble_eq_true h; omega
 unfold oj; rw[this]; rfl
theorem EX{f:Nat}(h:Nat.blt f 1000000=true)(vs:List Value):oj (f+1000000) vs=.func (.func f) vs.toArray #[]:=by
 have h1:Nat.ble 1000000 (f+1000000)=true:=Nat.ble_eq_true_of_le (by omega)
 have h2:=Nat.le_of_ble_eq_true h
 have h3:(f+1000000) % 1000000=f:=by omega
 unfold oj; rw[h1,h3]; rfl
theorem U2(f:Nat)(vs:List Value):(oj f vs).cells.toList=[oj f vs]:=by
 unfold oj; cases Nat.ble 1000000 f<;>rfl
theorem RO(f:Nat)(vs:List Value):(oj f vs).oneCell'=true:=by
 unfold oj; cases Nat.ble 1000000 f<;>rfl
theorem Uc(f:Nat)(vs:List Value):∃ g a b,oj f vs=.func (.func g) a b:=by
 unfold oj; cases Nat.ble 1000000 f<;>exact⟨_,_,_,rfl⟩
inductive RD(κ:KS):D->Value->Prop
 | zC (τ:Ty) (x:den τ) (cs:List Value) (h:Rc κ.w κ.ok τ x cs):RD κ (.zC τ x) (pk τ cs)
 | xw (e:Ty) (a:Option Addr):RD κ (.tight e ([]:List (den e)) false) (.slice a 0 0)
 | tight (e:Ty) (l:List (den e)) (ne:Bool) (blk off:Nat) (f:Nat->List Value) (uh:ne=true->l≠[]) (wI:κ.ok blk)
   (h:∀ i (hi:i<l.length),Rc κ.w κ.ok e l[i] (f i))
   (hc:∀ i,i<l.length->∀ j v,(f i)[j]? = some v->κ.w.cell? ⟨blk,off+i*e.size+j,none⟩=some v) :
   RD κ (.tight e l ne) (.slice (some ⟨blk,off,none⟩) l.length l.length)
 | xE:RD κ .xE (.slice none 0 0)
 | yL:RD κ .yL (.pointer none)
 | xh:RD κ .xh .nilIface
 | uq:RD κ .uq .nilFunc
 | uo:RD κ .uo (.map none)
 | tA (v:Value) (h:v.oneCell'=true):RD κ .tA v
 | dr (T:Nat):RD κ (.dr T) (.pointer none)
 | cW (b T:Nat) (d:D) (hd:κ.st[b]? = some (.var d)):RD κ (.yt b T) (.pointer none)
 | dn (b T blk n:Nat) (d:D) (hd:κ.st[b]? = some (.var d)) (h:κ.ph[b]? = some (some (blk,n))):RD κ (.yt b T) (.pointer (some ⟨blk,0,none⟩))
 | ptr (b off blk n:Nat) (d:D) (hd:κ.st[b]? = some (.var d)) (h:κ.ph[b]? = some (some (blk,n))):RD κ (.ptr b off) (.pointer (some ⟨blk,off,none⟩))
 | xe (τ:Ty) (x:den τ) (cs:List Value) (blk off:Nat) (wI:κ.ok blk) (h:Rc κ.w κ.ok τ x cs)
   (hc:∀ j v,cs[j]? = some v->κ.w.cell? ⟨blk,off+j,none⟩=some v):RD κ (.xe τ x) (.pointer (some ⟨blk,off,none⟩))
 | uQ (b qJ:Nat) (e:Ty) (idx off blk o:Nat) (hb:Old κ.st b qJ)
   (h:∀ xs:List (den e),κ.st[b]? = some (.arr qJ e xs)->idx<xs.length->∃ n:Nat,κ.ph[b]? = some (some (blk,n))/\o=idx*e.size+off) :
   RD κ (.uQ b qJ e idx off) (.pointer (some ⟨blk,o,none⟩))
 | ms (b qJ:Nat) (e:Ty) (off len cap:Nat) (a:Option Addr) (hb:Old κ.st b qJ) (vJ:len<=cap) (ha:a=none->cap=0) (nN:∀ p,a=some p->p.spot=none)
   (h:∀ xs:List (den e),κ.st[b]? = some (.arr qJ e xs)->M5 κ.ph b xs.length e off len (.slice a len cap)):RD κ (.ms b qJ e off len) (.slice a len cap)
 | xk (f:Nat) (l:List D) (vs:List Value) (hl:l.length=vs.length) (h:∀ i (h1:i<l.length) (h2:i<vs.length),RD κ l[i] vs[i]):RD κ (.xk f l) (oj f vs)
 | agg (l:List D) (vs:List Value) (hl:l.length=vs.length) (ho:∀ d∈l,d.one=true) (h:∀ i (h1:i<l.length) (h2:i<vs.length),RD κ l[i] vs[i]):RD κ (.agg l) (.agg vs.toArray)
 | gz (l:List D) (vs:List Value) (hl:l.length=vs.length) (h:∀ i (h1:i<l.length) (h2:i<vs.length),RD κ l[i] vs[i]):RD κ (.gz l) (.tuple vs.toArray)
 | iface (t:Nat) (d:D) (v:Value) (h:RD κ d v):RD κ (.iface t d) (.iface t v)
def qM(κ:KS)(l:List D)(vs:List Value):Prop:=l.length=vs.length/\∀ i (h1:i<l.length) (h2:i<vs.length),RD κ l[i] vs[i]
def ff[tn](κ:KS)(b:Nat):yj->Prop
 | .dead=>True
 | .var d=>∃ (blk n:Nat) (cs:Array Value) (t:TypeId),κ.ph[b]? = some (some (blk,n))/\κ.w.heap[blk]? = some (.cells cs t (0,0))/\cs.size=n/\qM κ (qm d) cs.toList/\(∀ x∈qm d,x.one=true)/\∀ T,d.typed=some T->t=T
 | .arr _ e xs=>0<e.size/\((xs=[]/\κ.ph[b]? = some none) \/
   ∃ (blk n:Nat) (cs:Array Value) (t:TypeId),κ.ph[b]? = some (some (blk,n))/\κ.w.heap[blk]? = some (.cells cs t (0,0))/\cs.size=n/\xs.length*e.size<=n/\z5K e t /\
    ∃ f:Nat->List Value,∀ i (hi:i<xs.length),Rc κ.w κ.ok e xs[i] (f i)/\∀ j v,(f i)[j]? = some v->cs[i*e.size+j]? = some v)
class ur extends tn where
 tab:List (Nat×(Obj->Prop))
def Zz[ur](w:World)(ok:Nat->Prop):Prop:=∀ x∈ur.tab,ok x.1/\∃ o,w.heap[x.1]? = some o/\x.2 o
theorem Zz.mono[ur]{w w':World}{ok W9:Nat->Prop}(h:Zz w ok)(hs:Eh w w' ok W9):Zz w' W9:=λx hx=>by
 obtain⟨h1,o,h2,h3⟩:=h x hx
 obtain⟨g1,g2⟩:=hs _ h1
 grind
structure Inv[ur](κ:KS):Prop where
 len:κ.ph.length=κ.st.length
 gm:∀ k,κ.ok k->k<κ.w.heap.size
 apart:∀ (b blk n:Nat),κ.ph[b]? = some (some (blk,n))->blk<κ.w.heap.size/\¬ κ.ok blk
 inj:∀ (b b' blk n n':Nat),κ.ph[b]? = some (some (blk,n))->κ.ph[b']? = some (some (blk,n'))->b=b'
 blk:∀ (b:Nat) (x:yj),κ.st[b]? = some x->ff κ b x
 gl:Zz κ.w κ.ok
structure Ext(κ κ':KS):Prop where
 os:κ'.w.os=κ.w.os
 tape:κ'.w.tape=κ.w.tape
 output:κ'.w.output=κ.w.output
 size:κ.w.heap.size<=κ'.w.heap.size
 same:Eh κ.w κ'.w κ.ok κ'.ok
 fresh:∀ k,κ'.ok k->κ.ok k\/κ.w.heap.size<=k\/∃ b n:Nat,κ.ph[b]? = some (some (k,n))
 phs:∀ (b blk n:Nat),κ'.ph[b]? = some (some (blk,n))->κ.ph[b]? = some (some (blk,n))\/κ.w.heap.size<=blk
 var:∀ (b:Nat) (d:D),κ.st[b]? = some (.var d)->(∃ d',κ'.st[b]? = some (.var d'))/\κ'.ph[b]? = κ.ph[b]?
 arr:∀ (b v0:Nat) (e:Ty) (Zd:List (den e)),κ.st[b]? = some (.arr v0 e Zd)->κ'.st[b]? = some .dead \/
  ∃ (v1:Nat) (jC:List (den e)),κ'.st[b]? = some (.arr v1 e jC)/\v0<=v1/\(v0=v1->κ'.ph[b]? = κ.ph[b]? /\ Zd.length=jC.length)
 dead:∀ (b:Nat),κ.st[b]? = some .dead->κ'.st[b]? = some .dead
 Cd:κ.st.length<=κ'.st.length
 frame:∀ k,k<κ.w.heap.size->(∀ (b n:Nat),κ.ph[b]? ≠ some (some (k,n)))->κ'.w.heap[k]? = κ.w.heap[k]?
theorem Ext.refl(κ:KS):Ext κ κ :=
 ⟨rfl,rfl,rfl,Nat.le_refl _,λ_ h=>⟨h,rfl⟩,λ_ h=>.inl h,λ_ _ _ h=>.inl h,λ_ d h=>⟨⟨d,h⟩,rfl⟩,
  λ_ qJ _ xs h=>.inr ⟨qJ,xs,h,Nat.le_refl _,λ_=>⟨rfl,rfl⟩⟩,λ_ h=>h,Nat.le_refl _,λ_ _ _=>rfl⟩
theorem Ext.trans{a b c:KS}(h:Ext a b)(k:Ext b c):Ext a c:=by
 refine⟨k.os.trans h.os,k.tape.trans h.tape,k.output.trans h.output,Nat.le_trans h.size k.size,?_,?_,?_,?_,?_,λb hb=>k.dead b (h.dead b hb),Nat.le_trans h.Cd k.Cd,?_⟩
 ·intro i hi
  obtain⟨h1,h2⟩:=h.same i hi
  obtain⟨h3,h4⟩:=k.same i h1
  grind
 ·intro i hi
  rcases k.fresh i hi with h1 | h1 | ⟨b,n,h1⟩
  ·exact h.fresh i h1
  ·exact .inr (.inl (Nat.le_trans h.size h1))
  ·rcases h.phs b i n h1 with h2 | h2
   ·grind
   ·grind
 ·intro i blk n hi
  rcases k.phs i blk n hi with h1 | h1
  ·exact h.phs i blk n h1
  ·exact .inr (Nat.le_trans h.size h1)
 ·intro i d hi
  obtain⟨⟨d',yq⟩,hp⟩:=h.var i d hi
  obtain⟨zjH,hp'⟩:=k.var i d' yq
  grind
 ·intro i v0 e Zd hi
  rcases h.arr i v0 e Zd hi with h1 | ⟨v1,x1,h1,h2,h3⟩
  ·exact .inl (k.dead i h1)
  ·rcases k.arr i v1 e x1 h1 with g1 | ⟨v2,x2,g1,g2,g3⟩
   ·grind
   ·grind
 ·intro i hi hn
  refine(k.frame i (Nat.lt_of_lt_of_le hi h.size) λb n hb => ?_).trans (h.frame i hi hn)
  rcases h.phs b i n hb with h1 | h1
  ·grind
  ·omega
theorem Ext.old{κ κ':KS}(x:Ext κ κ'){b qJ:Nat}(h:Old κ.st b qJ):Old κ'.st b qJ:=by
 rcases h with h | ⟨v0,e0,Zd,h,hv⟩
 ·exact .inl (x.dead b h)
 ·rcases x.arr b v0 e0 Zd h with h1 | ⟨v1,x1,h1,h2,_⟩
  ·exact .inl h1
  ·exact .inr ⟨v1,e0,x1,h1,Nat.le_trans hv h2⟩
theorem Ext.back{κ κ':KS}(x:Ext κ κ'){b qJ:Nat}(h:Old κ.st b qJ){e:Ty}{xs:List (den e)}(hx:κ'.st[b]? = some (.arr qJ e xs)) :
  ∃ Zd:List (den e),κ.st[b]? = some (.arr qJ e Zd)/\κ'.ph[b]? = κ.ph[b]? /\ Zd.length=xs.length:=by
 rcases h with h | ⟨v0,e0,Zd,h,hv⟩
 ·have:=x.dead b h; rw[hx]at this; cases this
 ·rcases x.arr b v0 e0 Zd h with h1 | ⟨v1,x1,h1,h2,h3⟩
  ·grind
  ·grind
theorem RD.mono{κ κ':KS}(x:Ext κ κ'){d:D}{v:Value}(h:RD κ d v):RD κ' d v:=by
 induction h with
 | zC τ y cs h=>exact .zC τ y cs (h.mono x.same)
 | xw e a=>exact .xw e a
 | tight e l ne blk off f uh wI h hc=>exact .tight e l ne blk off f uh (x.same _ wI).1 (λi hi=>(h i hi).mono x.same) λi hi j v hv=>by rw[cG (x.same _ wI).2]; exact hc i hi j v hv
 | xE=>exact .xE
 | yL=>exact .yL
 | xh=>exact .xh
 | uq=>exact .uq
 | uo=>exact .uo
 | tA v h=>exact .tA v h
 | dr T=>exact .dr T
 | cW b T d hd =>
  obtain⟨⟨d',yq⟩,hp⟩:=x.var b d hd
  exact .cW b T d' yq
 | dn b T blk n d hd h =>
  obtain⟨⟨d',yq⟩,hp⟩:=x.var b d hd
  exact .dn b T blk n d' yq (hp.trans h)
 | ptr b off blk n d hd h =>
  obtain⟨⟨d',yq⟩,hp⟩:=x.var b d hd
  exact .ptr b off blk n d' yq (hp.trans h)
 | xe τ y cs blk off wI h hc=>exact .xe τ y cs blk off (x.same _ wI).1 (h.mono x.same) λj v hv=>by rw[cG (x.same _ wI).2]; exact hc j v hv
 | uQ b qJ e idx off blk o hb h =>
  refine .uQ b qJ e idx off blk o (x.old hb) λxs hx hi => ?_
  obtain⟨Zd,h1,h2,h3⟩:=x.back hb hx
  grind
 | ms b qJ e off len cap a hb vJ ha nN h =>
  refine .ms b qJ e off len cap a (x.old hb) vJ ha nN λxs hx => ?_
  obtain⟨Zd,h1,h2,h3⟩:=x.back hb hx
  have:=h Zd h1
  unfold M5 at this ⊢
  grind
 | xk f l vs hl h ih=>exact .xk f l vs hl ih
 | agg l vs hl ho h ih=>exact .agg l vs hl ho ih
 | gz l vs hl h ih=>exact .gz l vs hl ih
 | iface t d v h ih=>exact .iface t d v ih
end Go.AM
namespace Go.AM
section
variable {α β:Type}
theorem T.zM{t:T α}{k:α->T β}{b:β}:(t.bind k).leads b↔∃ a,t.leads a/\(k a).leads b:=by
 induction t with
 | ret a=>simp[T.bind,T.leads]
 | ite c t e i1 i2 =>
  simp only[T.bind,T.leads]
  grind
 | zy p t ih =>
  simp only[T.bind,T.leads]; constructor
  ·grind
  ·grind
 | fail=>simp[T.bind,T.leads]
theorem T.uA{o:Option α}{a:α}:(T.YH o).leads a↔o=some a:=by cases o<;>simp[T.YH,T.leads]
end
section
variable {κ:KS}
theorem qM.nil:qM κ [] []:=⟨rfl,λi h _=>absurd h (Nat.not_lt_zero i)⟩
theorem qM.cons{d:D}{v:Value}{l:List D}{vs:List Value}(h:RD κ d v)(t:qM κ l vs):qM κ (d::l) (v::vs) :=
 ⟨by simp[t.1],λi h1 h2=>by cases i with | zero=>exact h | succ i=>exact t.2 i (by grind) (by grind)⟩
theorem qM.cons_inv{d:D}{l:List D}{vs:List Value}(h:qM κ (d::l) vs):∃ v r,vs=v::r/\RD κ d v/\qM κ l r:=by
 obtain⟨hl,h⟩:=h
 cases vs with
 | nil=>simp at hl
 | cons v r=>exact⟨v,r,rfl,h 0 (by simp) (by simp),by grind,λi h1 h2=>h (i+1) (by grind) (by grind)⟩
theorem qM.ql{vs:List Value}(h:qM κ [] vs):vs=[]:=List.eq_nil_of_length_eq_zero h.1.symm
theorem qM.append{l l':List D}{vs vs':List Value}(h:qM κ l vs)(h':qM κ l' vs'):qM κ (l++l') (vs++vs'):=by
 induction l generalizing vs with
 | nil=>rw[h.ql]; exact h'
 | cons d l ih=>obtain⟨v,r,rfl,h1,h2⟩:=h.cons_inv; exact .cons h1 (ih h2)
theorem qM.Ic{l l':List D}{vs:List Value}(h:qM κ (l++l') vs):∃ v1 v2,vs=v1++v2/\qM κ l v1/\qM κ l' v2:=by
 induction l generalizing vs with
 | nil=>exact⟨[],vs,rfl,.nil,h⟩
 | cons d l ih =>
  obtain⟨v,r,rfl,h1,h2⟩:=h.cons_inv
  obtain⟨v1,v2,rfl,h3,h4⟩:=ih h2
  exact⟨v::v1,v2,rfl,.cons h1 h3,h4⟩
theorem qM.get{l:List D}{vs:List Value}(h:qM κ l vs){i:Nat}{d:D}(hd:l[i]? = some d):∃ v,vs[i]? = some v/\RD κ d v:=by
 obtain⟨qD,he⟩:=List.getElem?_eq_some_iff.1 hd
 have h2:i<vs.length:=h.1▸qD
 exact⟨vs[i],List.getElem?_eq_getElem h2,he▸h.2 i qD h2⟩
theorem qM.take{l:List D}{vs:List Value}(h:qM κ l vs)(n:Nat):qM κ (l.take n) (vs.take n) :=
 ⟨by simp[h.1],λi h1 h2=>by simp; exact h.2 i (by grind) (by grind)⟩
theorem qM.drop{l:List D}{vs:List Value}(h:qM κ l vs)(n:Nat):qM κ (l.drop n) (vs.drop n) :=
 ⟨by simp[h.1],λi h1 h2=>by simp; exact h.2 (n+i) (by grind) (by grind)⟩
theorem qM.mono{κ':KS}(x:Ext κ κ'){l:List D}{vs:List Value}(h:qM κ l vs):qM κ' l vs:=⟨h.1,λi h1 h2=>(h.2 i h1 h2).mono x⟩
theorem Qh{τ:Ty}{cs:List Value}(h:cs.length=τ.size)(pz:∀ v∈cs,v.oneCell'=true):(pk τ cs).cells.toList=cs:=by
 unfold pk
 split
 ·rfl
 ·rename_i hn
  have hs:τ.size=1:=by cases τ<;>simp[Ty.isAgg]at hn<;>rfl
  match cs,h,pz with
  | [v],_,pz =>
   have:=pz v (by simp)
   cases v<;>first | rfl | cases this
  | [],h,_=>grind
  | _::_::_,h,_=>grind
theorem JV{τ:Ty}(h:τ.isAgg=false)(v:Value):pk τ [v]=v:=by simp[pk,h]
theorem Wl{τ:Ty}(h:τ.isAgg=false):τ.size=1:=by cases τ<;>simp[Ty.isAgg]at h<;>rfl
theorem Rc.single{w:World}{ok:Nat->Prop}{τ:Ty}{x:den τ}{cs:List Value}(h:Rc w ok τ x cs)(ht:τ.isAgg=false):∃ v,cs=[v]:=by
 have:=h.len
 rw[Wl ht]at this
 match cs,this with
 | [v],_=>simp
theorem RD.nw{τ:Ty}{x:den τ}{v:Value}(ht:τ.isAgg=false)(h:Rc κ.w κ.ok τ x [v]):RD κ (.zC τ x) v:=by
 have:=RD.zC τ x [v] h
 rwa [JV ht]at this
theorem RD.hM{τ:Ty}{x:den τ}{v:Value}(h:RD κ (.zC τ x) v):∃ cs,Rc κ.w κ.ok τ x cs/\v=pk τ cs:=by
 cases h with | zC _ _ cs h=>exact⟨cs,h,rfl⟩
theorem RD.vQ{τ:Ty}{x:den τ}{v:Value}(h:RD κ (.zC τ x) v)(ht:τ.isAgg=false):Rc κ.w κ.ok τ x [v]:=by
 obtain⟨cs,hc,rfl⟩:=RD.hM h
 obtain⟨u,rfl⟩:=hc.single ht
 rwa [JV ht]
theorem RD.int{k:IntKind}{n:Int}:RD κ (.zC (.int k) n) (.int k n):=RD.nw rfl (.int k n)
theorem RD.bool{b:Bool}:RD κ (.zC .bool b) (.bool b):=RD.nw rfl (.bool b)
theorem RD.str{s:zd}:RD κ (.zC .str s) (.string ⟨s.toArray⟩):=RD.nw rfl (.str s)
theorem RD.yW{k:IntKind}{n:Int}{v:Value}(h:RD κ (.zC (.int k) n) v):v=.int k n:=by have:=(h.vQ rfl).yW; simpa using this
theorem RD.kN{b:Bool}{v:Value}(h:RD κ (.zC .bool b) v):v=.bool b:=by have:=(h.vQ rfl).kN; simpa using this
theorem RD.vc{s:zd}{v:Value}(h:RD κ (.zC .str s) v):v=.string ⟨s.toArray⟩:=by have:=(h.vQ rfl).vc; simpa using this
theorem qM.one{d:D}{v:Value}(h:RD κ d v):qM κ [d] [v]:=.cons h .nil
theorem rT{τ:Ty}{x:den τ}{cs:List Value}(h:Rc κ.w κ.ok τ x cs):qM κ (flat τ x) cs:=by
 induction τ generalizing cs with
 | int k=>obtain⟨v,rfl⟩:=h.single rfl; exact .one (.nw rfl h)
 | bool=>obtain⟨v,rfl⟩:=h.single rfl; exact .one (.nw rfl h)
 | str=>obtain⟨v,rfl⟩:=h.single rfl; exact .one (.nw rfl h)
 | sl e _=>obtain⟨v,rfl⟩:=h.single rfl; exact .one (.nw rfl h)
 | nil=>rw[h.ql]; exact .nil
 | cons a b i1 i2=>obtain⟨c1,c2,rfl,h1,h2⟩:=h.cons_inv; exact(i1 h1).append (i2 h2)
 | expr =>
  obtain⟨c1,r1,rfl,h1,t1⟩:=h.D7.cons_inv
  obtain⟨c2,r2,rfl,h2,t2⟩:=t1.cons_inv
  obtain⟨c3,r3,rfl,h3,t3⟩:=t2.cons_inv
  obtain⟨c4,r4,rfl,h4,t4⟩:=t3.cons_inv
  have e4:=t4.ql
  subst e4
  obtain⟨d1,s1,rfl,g1,u1⟩:=h2.cons_inv
  obtain⟨d2,s2,rfl,g2,u2⟩:=u1.cons_inv
  obtain⟨d3,s3,rfl,g3,u3⟩:=u2.cons_inv
  have e5:=u3.ql
  subst e5
  obtain⟨v1,rfl⟩:=h1.single rfl
  obtain⟨v3,rfl⟩:=h3.single rfl
  obtain⟨v4,rfl⟩:=h4.single rfl
  obtain⟨u1,rfl⟩:=g1.single rfl
  obtain⟨u2,rfl⟩:=g2.single rfl
  obtain⟨u3,rfl⟩:=g3.single rfl
  exact .cons (.nw rfl h1) (.cons (.nw rfl g1) (.cons (.nw rfl g2) (.cons (.nw rfl g3) (.cons (.nw rfl h3) (.cons (.nw rfl h4) .nil)))))
theorem eP:∀ (τ:Ty) (x:den τ),∀ d∈flat τ x,d.one=true
 | .int _,_,d,h | .bool,_,d,h | .str,_,d,h | .sl _,_,d,h=>by simp[flat]at h; subst h; rfl
 | .nil,_,d,h=>by simp[flat]at h
 | .cons a b,x,d,h=>by
  simp only[flat,List.mem_append]at h
  rcases h with h | h
  ·exact eP a x.1 d h
  ·exact eP b x.2 d h
 | .expr,x,d,h=>by simp[flat]at h; rcases h with rfl | rfl | rfl | rfl | rfl | rfl<;>rfl
theorem ZU:∀ (τ:Ty) (x:den τ),(flat τ x).length=τ.size
 | .int _,_ | .bool,_ | .str,_ | .sl _,_ | .nil,_ | .expr,_=>rfl
 | .cons a b,x=>by simp[flat,Ty.size,ZU a,ZU b]
theorem Gr{v:Value}(h:v.oneCell'=true):v.cells = #[v]:=by
 cases v<;>first | rfl | cases h
theorem jF{d:D}{v:Value}(h:RD κ d v)(ht:d.jf=false):qM κ (qm d) v.cells.toList:=by
 cases h with
 | zC τ x cs h=>rw[Qh h.len h.one]; exact rT h
 | agg l vs hl ho h=>exact⟨by simpa[Value.cells,qm]using hl,λi h1 h2=>by simp at h2 ⊢; exact h i h1 h2⟩
 | gz=>cases ht
 | xw e a=>exact .one (.xw e a)
 | tight e l ne blk off f uh wI h hc=>exact .one (.tight e l ne blk off f uh wI h hc)
 | xE=>exact .one .xE
 | yL=>exact .one .yL
 | xh=>exact .one .xh
 | uq=>exact .one .uq
 | uo=>exact .one .uo
 | tA v h=>rw[Gr h]; exact .one (.tA v h)
 | dr T=>exact .one (.dr T)
 | cW b T d hd=>exact .one (.cW b T d hd)
 | dn b T blk n d hd h=>exact .one (.dn b T blk n d hd h)
 | ptr b off blk n d hd h=>exact .one (.ptr b off blk n d hd h)
 | xe τ x cs blk off wI h hc=>exact .one (.xe τ x cs blk off wI h hc)
 | uQ b qJ e idx off blk o hb h=>exact .one (.uQ b qJ e idx off blk o hb h)
 | ms b qJ e off len cap a hb vJ ha nN h=>exact .one (.ms b qJ e off len cap a hb vJ ha nN h)
 | xk f l vs hl h=>rw[U2]; exact .one (.xk f l vs hl h)
 | iface t d v h=>exact .one (.iface t d v h)
theorem jN{d:D}{v:Value}(h:RD κ d v):∀ x∈qm d,x.one=true:=by
 cases h with
 | zC τ x cs h=>exact eP τ x
 | agg l vs hl ho h=>exact ho
 | gz=>nofun
 | _=>intro x hx; simp[qm]at hx; subst hx; rfl
theorem RD.VE{d:D}{v:Value}(h:RD κ d v)(ho:d.one=true):v.oneCell'=true:=by
 cases h with
 | zC τ x cs h =>
  have ht:τ.isAgg=false:=by simpa[D.one]using ho
  obtain⟨v,rfl⟩:=h.single ht
  rw[JV ht]
  exact h.one v (by simp)
 | agg=>cases ho
 | gz=>cases ho
 | tA v h=>exact h
 | xk f l vs=>exact RO f vs
 | _=>rfl
theorem qx{a b:Ty}{x:den a}{y:den b}(h:(vN x:Option (den b))=some y):∃ e:a=b,y=e▸x:=by
 unfold vN at h
 grind
theorem yI{τ:Ty}{d:D}{v:Value}{x:den τ}(h:RD κ d v)(hx:fI τ d=some x)(ht:τ.isAgg=false):Rc κ.w κ.ok τ x [v]:=by
 cases h with
 | zC σ y cs h =>
  obtain⟨rfl,rfl⟩:=qx hx
  obtain⟨u,rfl⟩:=h.single ht
  rwa [JV ht]
 | xw e a=>obtain⟨rfl,rfl⟩:=qx hx; exact .lj e a
 | tight e l ne blk off f uh wI h hc=>obtain⟨rfl,rfl⟩:=qx hx; exact .sl e _ blk off _ f wI (Nat.le_refl _) h hc
 | xE =>
  cases τ with
  | sl e=>simp[fI]at hx; subst hx; exact .lj e none
  | _=>simp[fI]at hx
 | _=>simp[fI]at hx
theorem sO:∀ (τ:Ty) {ds:List D} {vs:List Value} {x:den τ} {r:List D},qM κ ds vs->jR τ ds=some (x,r) ->
  ∃ c1 c2,vs=c1++c2/\Rc κ.w κ.ok τ x c1/\qM κ r c2
 | .int k,[],_,_,_,_,he | .bool,[],_,_,_,_,he | .str,[],_,_,_,_,he | .sl e,[],_,_,_,_,he | .expr,[],_,_,_,_,he=>by simp[jR]at he
 | .int k,d::r,vs,x,r',h,he=>by
  simp only[jR]at he
  split at he
  ·rename_i y hy; cases he; obtain⟨v,u,rfl,h1,h2⟩:=h.cons_inv; exact⟨[v],u,rfl,yI h1 hy rfl,h2⟩
  ·cases he
 | .bool,d::r,vs,x,r',h,he=>by
  simp only[jR]at he
  split at he
  ·rename_i y hy; cases he; obtain⟨v,u,rfl,h1,h2⟩:=h.cons_inv; exact⟨[v],u,rfl,yI h1 hy rfl,h2⟩
  ·cases he
 | .str,d::r,vs,x,r',h,he=>by
  simp only[jR]at he
  split at he
  ·rename_i y hy; cases he; obtain⟨v,u,rfl,h1,h2⟩:=h.cons_inv; exact⟨[v],u,rfl,yI h1 hy rfl,h2⟩
  ·cases he
 | .sl e,d::r,vs,x,r',h,he=>by
  simp only[jR]at he
  split at he
  ·rename_i y hy; cases he; obtain⟨v,u,rfl,h1,h2⟩:=h.cons_inv; exact⟨[v],u,rfl,yI h1 hy rfl,h2⟩
  ·cases he
 | .nil,ds,vs,x,r,h,he=>by simp only[jR]at he; cases he; exact⟨[],vs,rfl,.nil,h⟩
 | .cons a b,ds,vs,x,r,h,he=>by
  simp only[jR]at he
  split at he
  ·rename_i y r' hy
   split at he
   ·rename_i z r'' hz
    cases he
    obtain⟨c1,c2,rfl,h1,h2⟩:=sO a h hy
    obtain⟨c3,c4,rfl,h3,h4⟩:=sO b h2 hz
    exact⟨c1++c3,c4,by simp,.cons a b y z c1 c3 h1 h3,h4⟩
   ·cases he
  ·cases he
 | .expr,d::r,vs,x,r',h,he=>by
  simp only[jR]at he
  split at he
  ·cases he
  ·rename_i k hk
   split at he
   ·rename_i d1 d2 d3 d4 d5 r0
    split at he
    ·rename_i a n m s l ha hn hm hs hl
     cases he
     obtain⟨v,u,rfl,h0,t0⟩:=h.cons_inv
     obtain⟨v1,u1,rfl,h1,t1⟩:=t0.cons_inv
     obtain⟨v2,u2,rfl,h2,t2⟩:=t1.cons_inv
     obtain⟨v3,u3,rfl,h3,t3⟩:=t2.cons_inv
     obtain⟨v4,u4,rfl,h4,t4⟩:=t3.cons_inv
     obtain⟨v5,u5,rfl,h5,t5⟩:=t4.cons_inv
     refine⟨[v]++(([v1]++([v2]++([v3]++[])))++([v4]++([v5]++[]))),u5,by simp,.expr _ _ _ _ _ ?_,t5⟩
     exact .cons i64 _ k _ _ _ (yI h0 hk rfl) (.cons YL _ (a,n,m,()) _ _ _ (.cons .bool _ a _ _ _ (yI h1 ha rfl) (.cons _ _ n _ _ _ (yI h2 hn rfl) (.cons _ _ m _ _ _ (yI h3 hm rfl) .nil)))
      (.cons .str _ s _ _ _ (yI h4 hs rfl) (.cons _ _ l _ _ _ (yI h5 hl rfl) .nil)))
    ·cases he
   ·cases he
theorem cQ{τ:Ty}{d:D}{v:Value}{x:den τ}(h:RD κ d v)(hx:fk τ d=some x):RD κ (.zC τ x) v:=by
 have key:(∀ σ y,d≠.zC σ y)->(bif (d.isAgg==τ.isAgg) && !d.jf then(match jR τ (qm d)with | some (x,[])=>some x | _=>none)else none)=some x->RD κ (.zC τ x) v:=by
  intro hni hx
  cases hc:(d.isAgg==τ.isAgg) && !d.jf with
  | false=>grind
  | true =>
  rw[hc]at hx
  simp at hc
  obtain⟨z7Q,Dh⟩:=hc
  split at hx
  ·rename_i y hy
   cases hx
   obtain⟨c1,c2,he,h1,h2⟩:=sO τ (jF h Dh) hy
   have e2:=h2.ql
   subst e2
   rw[List.append_nil]at he
   have hv:v=pk τ c1:=by
    rw[<- he]
    cases hd:d.isAgg with
    | true =>
     cases d<;>simp[D.isAgg]at hd
     cases h with | agg l vs hl ho h=>simp[pk,D.isAgg]at z7Q ⊢; simp[<- z7Q,Value.cells]
    | false =>
     simp only[pk,<- z7Q]
     cases h<;>first | rfl | (rw[U2]; rfl) | (rename_i hu; rw[Gr hu]; rfl) | (rename_i σ y cs hc; exact absurd rfl (hni σ y)) | (simp at hd; done) | (simp at Dh; done)
   rw[hv]
   exact .zC τ _ c1 h1
  ·cases hx
 cases d with
 | zC σ y=>obtain⟨rfl,rfl⟩:=qx hx; exact h
 | _=>exact key (λ_ _=>nofun) hx
end
end Go.AM
namespace Go.AM
set_option linter.unusedSectionVars false
variable [ur]
def qH(P:Program)(s:Sem Next)(κ:KS)(d:Option D)(zx:St):Prop :=
 ∃ (κ':KS) (n:Next) (v:Value),s.run P κ.w=.ok n κ'.w/\(n=.value v\/(n=.skip/\v=undef))/\κ'.st=zx/\Inv κ'/\Ext κ κ'/\∀ d',d=some d'->RD κ' d' v
section
variable {c:Ctx} {κ:KS}
theorem qH.pure{s:Sem Value}{d:D}{v:Value}(hi:Inv κ)(h:s.run c.P κ.w=.ok v κ.w)(hd:RD κ d v):qH c.P (do Pure.pure (.value (<- s))) κ (some d) κ.st :=
 ⟨κ,.value v,v,by simp[h],.inl rfl,rfl,hi,Ext.refl κ,λ_ he=>by grind⟩
theorem qH.val{d:Option D}{v:Value}(hi:Inv κ)(hd:∀ d',d=some d'->RD κ d' v):qH c.P (Pure.pure (.value v)) κ d κ.st :=
 ⟨κ,.value v,v,rfl,.inl rfl,rfl,hi,Ext.refl κ,hd⟩
theorem eX{t n:Nat}(h:iR c t=some n):∃ i,c.P.info? t=some i/\i.size=n:=by
 unfold iR at h
 cases hi:c.P.info? t with
 | none=>grind
 | some i=>grind
theorem run_sizeOf{t n:Nat}(h:iR c t=some n)(w:World):(sizeOf t).run c.P w=.ok n w:=by
 obtain⟨i,h1,h2⟩:=eX h
 simp[sizeOf,typeInfo,h1,h2]
theorem sk{t:Nat}{b:Bool}(h:BF c t=some b)(w:World):(isAgg t).run c.P w=.ok b w:=by
 unfold BF at h
 cases hu:c.P.underlying t with
 | none=>grind
 | some d =>
  simp only[isAgg,Sem.run_bind,run_underlying hu]
  cases d<;>simp[hu]at h<;>simp[<- h]
theorem vT{t:Nat}{τ:Ty}(h:kX c t τ=true):iR c t=some τ.size/\BF c t=some τ.isAgg:=by
 unfold kX at h
 simp at h
 obtain⟨⟨_,h1⟩,h2⟩:=h
 constructor
 ·split at h1
  ·rename_i n hn; rw[hn,Nat.eq_of_beq_eq_true h1]
  ·cases h1
 ·grind
theorem ZZ{t:Nat}{τ:Ty}(h:kX c t τ=true):z5K τ t:=by
 unfold kX at h
 simp at h
 intro e
 subst e
 exact Nat.eq_of_beq_eq_true h.1.1
omit [ur]in
theorem ub(blk o j:Nat):(⟨blk,o,none⟩:Addr).add j=⟨blk,o+j,none⟩:=by unfold Addr.add; split<;>simp_all
theorem iQ{t:Nat}{b:Bool}{n blk o:Nat}{cs:List Value}(ha:BF c t=some b)(hn:iR c t=some n)(hl:cs.length=n)(h1:b=false->n=1)
  (hc:∀ j v,cs[j]? = some v->κ.w.cell? ⟨blk,o+j,none⟩=some v) :
  (loadVar t ⟨blk,o,none⟩).run c.P κ.w=.ok (if b then .agg cs.toArray else cs.headD undef) κ.w:=by
 simp only[loadVar,Sem.run_bind,sk ha]
 cases b with
 | true =>
  simp[if_true,run_sizeOf hn]
  rw[<- hl,run_loadCells_list κ.w ⟨blk,o,none⟩ cs (λj v hj=>by rw[ub]; exact hc j v hj)]
  simp
 | false =>
  have:=h1 rfl
  subst this
  match cs,hl with
  | [v],_ =>
   have:=hc 0 v rfl
   simp at this
   simp[this]
theorem Ps{t:Nat}{τ:Ty}{x:den τ}{cs:List Value}{blk o:Nat}(ht:kX c t τ=true)(h:Rc κ.w κ.ok τ x cs)
  (hc:∀ j v,cs[j]? = some v->κ.w.cell? ⟨blk,o+j,none⟩=some v):(loadVar t ⟨blk,o,none⟩).run c.P κ.w=.ok (pk τ cs) κ.w:=by
 obtain⟨h1,h2⟩:=vT ht
 rw[iQ (c:=c) h2 h1 h.len (λe=>Wl e) hc]
 rfl
theorem vC{t:T (Option D)}{st zx:St}{d:Option D}:(zR (.val t) st).leads (d,zx)↔t.leads d/\zx=st:=by
 simp only[zR,T.zM,T.leads]
 grind
theorem mf{k:St->T (Option D)}{st zx:St}{d:Option D}:(zR (.rd k) st).leads (d,zx)↔(k st).leads d/\zx=st:=by
 simp only[zR,T.zM,T.leads]
 grind
theorem zh{st:St}{r:Option D×St}:¬ (zR bad st).leads r:=by nofun
theorem kh{x:D}{st zx:St}{d:Option D}:(zR (AM.val x) st).leads (d,zx)↔d=some x/\zx=st:=by
 rw[AM.val,vC]; simp only[T.leads]; exact⟨λh=>⟨h.1.symm,h.2⟩,λh=>⟨h.1.symm,h.2⟩⟩
theorem vU{p:Prop}{x:D}{st zx:St}{d:Option D}:(zR (.val (.zy p (.ret (some x)))) st).leads (d,zx)↔p/\d=some x/\zx=st:=by
 rw[vC]; simp only[T.leads]
 grind
theorem Ug{x:Option D}{st zx:St}{d:Option D}(h:(zR (z2X x) st).leads (d,zx)):∃ y,x=some y/\d=some y/\zx=st:=by
 cases x with
 | none=>exact absurd h zh
 | some y=>rw[z2X,vC]at h; exact⟨y,rfl,h.1.symm,h.2⟩
theorem VB:∀ (τ:Ty) (x:den τ) {cs:List Value},qM κ (flat τ x) cs->Rc κ.w κ.ok τ x cs
 | .int k,x,cs,h=>by obtain⟨v,r,rfl,h1,h2⟩:=h.cons_inv; rw[h2.ql]; exact h1.vQ rfl
 | .bool,x,cs,h=>by obtain⟨v,r,rfl,h1,h2⟩:=h.cons_inv; rw[h2.ql]; exact h1.vQ rfl
 | .str,x,cs,h=>by obtain⟨v,r,rfl,h1,h2⟩:=h.cons_inv; rw[h2.ql]; exact h1.vQ rfl
 | .sl e,x,cs,h=>by obtain⟨v,r,rfl,h1,h2⟩:=h.cons_inv; rw[h2.ql]; exact h1.vQ rfl
 | .nil,x,cs,h=>by rw[h.ql]; exact .nil
 | .cons a b,x,cs,h=>by
  obtain⟨c1,c2,rfl,h1,h2⟩:=qM.Ic h
  exact .cons a b x.1 x.2 c1 c2 (VB a x.1 h1) (VB b x.2 h2)
 | .expr,.mk k (a,n,m,()) s l,cs,h=>by
  obtain⟨v,u,rfl,h0,t0⟩:=h.cons_inv
  obtain⟨v1,u1,rfl,h1,t1⟩:=t0.cons_inv
  obtain⟨v2,u2,rfl,h2,t2⟩:=t1.cons_inv
  obtain⟨v3,u3,rfl,h3,t3⟩:=t2.cons_inv
  obtain⟨v4,u4,rfl,h4,t4⟩:=t3.cons_inv
  obtain⟨v5,u5,rfl,h5,t5⟩:=t4.cons_inv
  rw[t5.ql]
  exact .expr _ _ _ _ _ (.cons i64 _ k _ _ _ (h0.vQ rfl) (.cons YL _ (a,n,m,()) _ _ _ (.cons .bool _ a _ _ _ (h1.vQ rfl) (.cons (.sl u32) (.cons (.sl u32) .nil) n (m,()) [v2] ([v3]++[]) (h2.vQ rfl) (.cons (.sl u32) .nil m () [v3] [] (h3.vQ rfl) .nil)))
      (.cons .str _ s _ _ _ (h4.vQ rfl) (.cons (.sl .expr) .nil l () [v5] [] (h5.vQ rfl) .nil))))
theorem Lm{t:Nat}{d r:D}{off:Nat}{vs:List Value}(h:EY c t d off=some r)(hd:qM κ (qm d) vs)(pz:∀ x∈qm d,x.one=true) :
  (∃ n,BF c t=some true/\iR c t=some n/\off+n<=vs.length/\RD κ r (.agg ((vs.drop off).take n).toArray)) \/
  (∃ v,BF c t=some false/\vs[off]? = some v/\RD κ r v):=by
 unfold EY at h
 split at h
 ·rename_i ha
  split at h
  ·cases h
  ·rename_i n hn
   refine .inl ⟨n,ha,hn,?_⟩
   cases hb:(Nat.beq off 0&&Nat.beq n (qm d).length&&d.z94)with
   | true =>
    rw[hb]at h
    simp at h
    subst h
    simp only[Bool.and_eq_true]at hb
    obtain⟨⟨h1,h2⟩,h3⟩:=hb
    have e1:off=0:=Nat.eq_of_beq_eq_true h1
    have e2:n=(qm d).length:=Nat.eq_of_beq_eq_true h2
    subst e1
    have hl:=hd.1
    rw[e2,hl]
    refine⟨by omega,?_⟩
    simp
    cases d with
    | zC τ x =>
     have:=RD.zC τ x vs (VB τ x hd)
     simpa[pk,show τ.isAgg=true from h3]using this
    | agg l=>exact .agg l vs hl pz hd.2
    | _=>cases h3
   | false =>
    rw[hb]at h
    split at h
    ·rename_i l hl
     cases h
     unfold Gu at hl
     cases hle:Nat.ble (off+n) (qm d).length with
     | false=>grind
     | true =>
      rw[hle]at hl
      cases hl
      have KF:=Nat.le_of_ble_eq_true hle
      refine⟨by rw[<- hd.1]; exact KF,?_⟩
      have ht:=(hd.drop off).take n
      exact .agg _ _ ht.1 (λx hx=>pz x (List.mem_of_mem_drop (List.mem_of_mem_take hx))) ht.2
    ·cases h
 ·rename_i ha
  obtain⟨v,h1,h2⟩:=hd.get h
  grind
 ·cases h
theorem JY{t:Nat}{d r:D}{off blk:Nat}{vs:List Value}(base:Nat)(h:EY c t d off=some r)(hd:qM κ (qm d) vs)(pz:∀ x∈qm d,x.one=true)
  (hc:∀ j v,vs[j]? = some v->κ.w.cell? ⟨blk,base+j,none⟩=some v):∃ v,(loadVar t ⟨blk,base+off,none⟩).run c.P κ.w=.ok v κ.w/\RD κ r v:=by
 rcases Lm h hd pz with⟨n,ha,hn,hle,hr⟩ | ⟨v,ha,hv,hr⟩
 ·refine⟨_,?_,hr⟩
  rw[iQ (c:=c) (b:=true) (cs:=(vs.drop off).take n) ha hn (by grind) nofun]
  ·simp
  ·grind
 ·refine⟨v,?_,hr⟩
  simp only[loadVar,Sem.run_bind,sk ha]
  simp[hc off v hv]
theorem Inv.Mt{κ:KS}(hi:Inv κ){b:Nat}{x:yj}(h:κ.st[b]? = some x):ff κ b x:=hi.blk b x h
theorem sL{blk:Nat}{cs:Array Value}{t:TypeId}{fz:Nat×Nat}(h:κ.w.heap[blk]? = some (.cells cs t fz))(o:Nat):κ.w.cell? ⟨blk,o,none⟩=cs[o]? := by
 simp[World.cell?,h]
theorem O4{t:Nat}{x:Option D}{v:Value}{d:Option D}{zx:St}(hi:Inv κ)(hx:∀ y,x=some y->RD κ y v)(h:(zR (UT c t x) κ.st).leads (d,zx)) :
  qH c.P (do Pure.pure (.value (<- Instr.loadAt t v))) κ d zx:=by
 unfold UT at h
 split at h
 ·rename_i τ y
  cases ht:kX c t τ with
  | false=>rw[ht]at h; exact absurd h zh
  | true =>
   rw[ht,cond_true,kh]at h
   obtain⟨rfl,rfl⟩:=h
   cases hx _ rfl with
   | xe _ _ cs blk off wI hr hc =>
    exact qH.pure hi (by simp[Instr.loadAt,Instr.sureAddr,Ps ht hr hc]) (.zC τ y cs hr)
 ·rename_i b off
  rw[mf]at h
  obtain⟨h,rfl⟩:=h
  split at h
  ·rename_i d0 hb
   split at h
   ·rename_i r hr
    cases h
    cases hx _ rfl with
    | ptr _ _ blk n d1 hd hp =>
     obtain⟨lN,n',cs,T,g1,g2,g3,g4,g5⟩:=hi.blk b _ hb
     rw[hp]at g1
     cases g1
     obtain⟨v,h1,h2⟩:=JY (c:=c) (blk:=blk) 0 hr g4 g5.1 (λj v hj=>by rw[sL g2]; simpa using hj)
     rw[Nat.zero_add]at h1
     exact qH.pure hi (by simp[Instr.loadAt,Instr.sureAddr,h1]) h2
   ·exact h.elim
  ·exact h.elim
 ·rename_i b qJ e idx off
  rw[mf]at h
  obtain⟨h,rfl⟩:=h
  split at h
  ·rename_i kP e' xs hb
   cases he:decide (e'=e)with
   | false=>rw[he]at h; exact h.elim
   | true =>
    rw[he,cond_true]at h
    have Sg:e'=e:=of_decide_eq_true he
    subst Sg
    obtain⟨⟨rfl,qD⟩,h⟩:=h
    split at h
    ·rename_i r hr
     cases h
     cases hx _ rfl with
     | uQ _ _ _ _ _ blk o hold hp =>
      obtain⟨n,p1,rfl⟩:=hp xs hb qD
      obtain⟨jv,⟨Uq,_⟩ | ⟨lN,n',cs,T,g1,g2,g3,g4,gr,f,g5⟩⟩:=hi.blk b _ hb
      ·grind
      ·rw[p1]at g1
       cases g1
       have hg:xs.getD idx (zn e')=xs[idx]:=by simp[List.getD,List.getElem?_eq_getElem qD]
       rw[hg]at hr
       obtain⟨k1,k2⟩:=g5 idx qD
       obtain⟨v,h1,h2⟩:=JY (c:=c) (blk:=blk) (idx*e'.size) hr (rT k1) (eP _ _) (λj v hj=>by rw[sL g2]; exact k2 j v hj)
       exact qH.pure hi (by simp[Instr.loadAt,Instr.sureAddr,h1]) h2
    ·exact h.elim
  ·exact h.elim
 ·exact absurd h zh
end
end Go.AM
namespace Go.AM
set_option linter.unusedSectionVars false
variable [ur]
section
variable {c:Ctx} {κ:KS}
theorem Bj{s f o n:Nat}(h:VL c s f=some (o,n)):∃ fs fd,c.P.underlying s=some (.struct fs)/\fs[f]? = some fd/\iR c fd.type=some n/\n≠0/\fd.offset=o:=by
 unfold VL at h
 split at h
 ·rename_i fs hu
  split at h
  ·rename_i fd hf
   split at h
   ·rename_i m hm
    cases hb:Nat.beq m 0 with
    | true=>grind
    | false =>
     rw[hb]at h
     cases h
     refine⟨fs,fd,hu,hf,hm,?_,rfl⟩
     intro e
     subst e
     cases hb
   ·cases h
  ·cases h
 ·cases h
theorem pI{s f o n blk p:Nat}(h:VL c s f=some (o,n))(w:World) :
  (Instr.fieldAt s (.pointer (some ⟨blk,p,none⟩)) f).run c.P w=.ok (.pointer (some ⟨blk,p+o,none⟩)) w:=by
 obtain⟨fs,fd,h1,h2,h3,h4,h5⟩:=Bj h
 simp[Instr.fieldAt,run_underlying h1,h2,Instr.sureAddr,fieldPlace,run_sizeOf h3,h4,ub]
theorem UQ:∀ (τ:Ty) (x:den τ) (n:Nat) {d:D} {o s:Nat} {cs:List Value},rI τ x n=some (d,o,s)->Rc κ.w κ.ok τ x cs ->
  ∃ (σ:Ty) (y:den σ) (c2:List Value),d=.xe σ y/\Rc κ.w κ.ok σ y c2/\s=σ.size/\∀ j v,c2[j]? = some v->cs[o+j]? = some v
 | .cons a b,x,0,d,o,s,cs,h,hr=>by
  simp only[rI]at h
  cases h
  obtain⟨c1,c2,rfl,h1,h2⟩:=hr.cons_inv
  grind
 | .cons a b,x,n+1,d,o,s,cs,h,hr=>by
  simp only[rI]at h
  split at h
  ·rename_i d' o' s' h'
   cases h
   obtain⟨c1,c2,rfl,h1,h2⟩:=hr.cons_inv
   obtain⟨σ,y,c3,e1,e2,e3,e4⟩:=UQ b x.2 n h' h2
   refine⟨σ,y,c3,e1,e2,e3,λj v hj => ?_⟩
   have:=h1.len
   grind
  ·cases h
 | .expr,.mk k (a,n,m,()) s l,i,d,o,z,cs,h,hr=>by
  obtain⟨c1,r1,rfl,h1,t1⟩:=hr.D7.cons_inv
  obtain⟨c2,r2,rfl,h2,t2⟩:=t1.cons_inv
  obtain⟨c3,r3,rfl,h3,t3⟩:=t2.cons_inv
  obtain⟨c4,r4,rfl,h4,t4⟩:=t3.cons_inv
  have e4:=t4.ql
  subst e4
  have l2:c2.length=3:=h2.len
  obtain⟨v1,rfl⟩:=h1.single rfl
  obtain⟨v3,rfl⟩:=h3.single rfl
  obtain⟨v4,rfl⟩:=h4.single rfl
  match i,h with
  | 0,h=>simp only[rI]at h; cases h; exact⟨i64,_,_,rfl,h1,rfl,λj v hj=>by match j,hj with | 0,hj=>simpa using hj⟩
  | 1,h => 
   simp only[rI]at h; cases h
   refine⟨YL,_,_,rfl,h2,rfl,λj v hj => ?_⟩
   grind
  | 2,h =>
   simp only[rI]at h; cases h
   refine⟨.str,_,_,rfl,h3,rfl,λj v hj => ?_⟩
   grind
  | 3,h =>
   simp only[rI]at h; cases h
   refine⟨.sl .expr,_,_,rfl,h4,rfl,λj v hj => ?_⟩
   match j,hj with
   | 0,hj =>
    simp only[List.cons_append,List.nil_append,Nat.add_zero,List.getElem?_cons_succ]
    rw[List.getElem?_append_right (by omega),l2]; simpa using hj
  | n+4,h=>simp[rI]at h
 | .int _,_,_,_,_,_,_,h,_ | .bool,_,_,_,_,_,_,h,_ | .str,_,_,_,_,_,_,h,_ | .sl _,_,_,_,_,_,_,h,_ | .nil,_,_,_,_,_,_,h,_=>by simp[rI]at h
theorem Ui{s f:Nat}{x:Option D}{v:Value}{d:Option D}{zx:St}(hi:Inv κ)(hx:∀ y,x=some y->RD κ y v)(h:(zR (oL c s f x) κ.st).leads (d,zx)) :
  qH c.P (do Pure.pure (.value (<- Instr.fieldAt s v f))) κ d zx:=by
 unfold oL at h
 split at h
 ·exact absurd h zh
 ·rename_i o n hf
  split at h
  ·rename_i τ y
   split at h
   ·rename_i d' o' n' Bq
    cases hb:Nat.beq o o'&&Nat.beq n n' with
    | false=>rw[hb]at h; exact absurd h zh
    | true =>
     rw[hb,cond_true,kh]at h
     obtain⟨rfl,rfl⟩:=h
     simp only[Bool.and_eq_true]at hb
     have e1:o=o':=Nat.eq_of_beq_eq_true hb.1
     subst e1
     cases hx _ rfl with
     | xe _ _ cs blk off wI hr hc =>
      obtain⟨σ,z,c2,rfl,g1,g2,g3⟩:=UQ τ y f Bq hr
      exact qH.pure hi (pI hf κ.w) (.xe σ z c2 blk (off+o) wI g1 λj u hj=>by grind)
   ·exact absurd h zh
  ·rename_i b off
   obtain⟨rfl,rfl⟩:=h
   cases hx _ rfl with
   | ptr _ _ blk n d hd hp=>exact qH.pure hi (pI hf κ.w) (.ptr b (off+o) blk n d hd hp)
  ·rename_i b qJ e idx off
   obtain⟨rfl,rfl⟩:=h
   cases hx _ rfl with
   | uQ _ _ _ _ _ blk p hold hp =>
    refine qH.pure hi (pI hf κ.w) (.uQ b qJ e idx (off+o) blk (p+o) hold λxs h1 h2 => ?_)
    grind
  ·exact absurd h zh
theorem I1{s f:Nat}{x:Option D}{v:Value}{d:Option D}{zx:St}(hi:Inv κ)(hx:∀ y,x=some y->RD κ y v)(h:(zR (GC c s f x) κ.st).leads (d,zx)) :
  qH c.P (do Pure.pure (.value (<- Instr.field s v f))) κ d zx:=by
 unfold GC at h
 split at h
 ·rename_i fs hu
  split at h
  ·rename_i fd hf
   split at h
   ·rename_i y
    obtain⟨r,hr,rfl,rfl⟩:=Ug h
    cases hag:y.dJ with
    | false=>grind
    | true =>
    rw[hag,cond_true]at hr
    have hy:=hx _ rfl
    have ⟨vs,hv,hvs⟩:∃ vs,v=.agg vs/\qM κ (qm y) vs.toList:=by
     have P4:=jF hy (by cases y<;>simp[D.dJ,D.jf]at hag ⊢)
     cases hy<;>simp[D.dJ]at hag
     ·rename_i τ z cs hc
      exact⟨cs.toArray,by simp[pk,hag],by simpa[pk,hag,Value.cells]using P4⟩
     ·rename_i l vs hl ho hh
      exact⟨vs.toArray,rfl,by simpa[Value.cells]using P4⟩
    subst hv
    rcases Lm hr hvs (jN hy)with⟨n,ha,hn,hle,hrd⟩ | ⟨u,ha,hu',hrd⟩
    ·refine qH.pure hi ?_ hrd
     simp only[Instr.field,Sem.run_bind,run_underlying hu,Result.andThen_ok,hf,asAgg,Sem.run_pure,part,sk ha,if_true,run_sizeOf hn]
     congr 2
     grind
    ·refine qH.pure hi ?_ hrd
     have:vs[fd.offset]? = some u:=by simpa using hu'
     simp[Instr.field,run_underlying hu,hf,asAgg,part,sk ha,this]
   ·exact absurd h zh
  ·exact absurd h zh
 ·exact absurd h zh
theorem uN{t e:Nat}(h:il c t=some e):c.P.underlying t=some (.slice e):=by
 unfold il at h
 grind
theorem uG{x:Option D}{k:IntKind}{n:Int}{v:Value}(h:asInt x=some (k,n))(hx:∀ y,x=some y->RD κ y v):v=.int k n:=by
 unfold asInt at h
 split at h
 ·cases h; exact(hx _ rfl).yW
 ·cases h
theorem pc{x:Option D}{s:zd}{v:Value}(h:VW x=some s)(hx:∀ y,x=some y->RD κ y v):v=.string ⟨s.toArray⟩:=by
 unfold VW at h
 split at h
 ·cases h; exact(hx _ rfl).vc
 ·cases h
theorem sj{x:Option D}{b:Bool}{v:Value}(h:asBool x=some b)(hx:∀ y,x=some y->RD κ y v):v=.bool b:=by
 unfold asBool at h
 split at h
 ·cases h; exact(hx _ rfl).kN
 ·cases h
theorem VN{α:Type}{l:List α}{i:Nat}(h:i<l.length)(d:α):List.getD l i d=l[i]:=by grind
theorem p8{a:Ty}(x:den a):(vN x:Option (den a))=some x:=by simp[vN]
theorem C3{w:World}{ok:Nat->Prop}:∀ (τ:Ty) (e:Ty) (n:Nat) (x:den τ) (cs:List Value) (i:Nat),BG τ=some (e,n)->Rc w ok τ x cs->i<n ->
  ∃ c,Rc w ok e (oB e τ x i) c/\∀ j v,c[j]? = some v->cs[i*e.size+j]? = some v
 | .cons a b,e,n,x,cs,i,ht,hr,hi=>by
  obtain⟨c1,c2,rfl,h1,h2⟩:=hr.cons_inv
  have key:∀ m,(b=.nil/\m=0\/BG b=some (a,m))->i<m+1->∃ c,Rc w ok a (oB a (.cons a b) x i) c/\∀ j v,c[j]? = some v->(c1++c2)[i*a.size+j]? = some v:=by
   intro m hm hi
   cases i with
   | zero =>
    refine⟨c1,by simp only[oB,p8]; exact h1,λj v hj => ?_⟩
    grind
   | succ i =>
    rcases hm with⟨rfl,rfl⟩ | hm
    ·omega
    ·obtain⟨c,g1,g2⟩:=C3 b a m x.2 c2 i hm h2 (by omega)
     refine⟨c,g1,λj v hj => ?_⟩
     have hl:=h1.len
     grind
  unfold BG at ht
  split at ht
  ·cases ht; exact key 0 (.inl ⟨rfl,rfl⟩) (by omega)
  ·grind
 | .int _,_,_,_,_,_,ht,_,_=>by cases ht
 | .bool,_,_,_,_,_,ht,_,_=>by cases ht
 | .str,_,_,_,_,_,ht,_,_=>by cases ht
 | .sl _,_,_,_,_,_,ht,_,_=>by cases ht
 | .nil,_,_,_,_,_,ht,_,_=>by cases ht
 | .expr,_,_,_,_,_,ht,_,_=>by cases ht
theorem P0{t n e:Nat}(h:z7j c t=some (n,e)):c.P.underlying t=some (.array n e):=by
 unfold z7j at h
 grind
theorem KH{t:Nat}{x i:Option D}{k:IntKind}{n:Int}{v u:Value}{d:Option D}{zx:St}(hi:Inv κ)(hx:∀ y,x=some y->RD κ y v)(hy:∀ y,i=some y->RD κ y u)(V9:asInt i=some (k,n))
  (h:(zR (J9 c t x n) κ.st).leads (d,zx)):qH c.P (do Pure.pure (.value (<- Instr.indexAt t v u))) κ d zx:=by
 have hu':=uG V9 hy
 subst hu'
 unfold J9 at h
 split at h
 ·rename_i m et τ y ha
  have hu:=P0 ha
  split at h
  ·rename_i e m' Lo
   cases ht:kX c et e&&Nat.beq m m' with
   | false=>rw[ht]at h; exact absurd h zh
   | true =>
    rw[ht,cond_true,vU]at h
    simp only[Bool.and_eq_true]at ht
    have:=Nat.eq_of_beq_eq_true ht.2
    subst this
    obtain⟨⟨h0,h1⟩,rfl,rfl⟩:=h
    obtain⟨hs,_⟩:=vT ht.1
    cases hx _ rfl with
    | xe _ _ cs blk off wI E7 hc =>
     obtain⟨cc,g1,g2⟩:=C3 τ e m y cs n.toNat Lo E7 (by omega)
     refine qH.pure hi ?_ (.xe e _ cc blk (off+n.toNat*e.size) wI g1 λj v hj=>by grind)
     simp[Instr.indexAt,asIntOf,run_underlying hu,h0,h1,run_sizeOf hs,ub,Instr.sureAddr]
  ·exact absurd h zh
 ·exact absurd h zh
theorem U1{t:Nat}{x i:Option D}{v u:Value}{d:Option D}{zx:St}(hi:Inv κ)(hx:∀ y,x=some y->RD κ y v)(hy:∀ y,i=some y->RD κ y u)
  (h:(zR (rJ c t x i) κ.st).leads (d,zx)):qH c.P (do Pure.pure (.value (<- Instr.indexAt t v u))) κ d zx:=by
 unfold rJ at h
 split at h
 ·rename_i k n het V9
  exact KH hi hx hy V9 h
 ·rename_i et k n het V9
  have hu:=uN het
  have hu':=uG V9 hy
  subst hu'
  split at h
  ·rename_i e l
   cases ht:kX c et e with
   | false=>rw[ht]at h; exact absurd h zh
   | true =>
    rw[ht,cond_true,vU]at h
    obtain⟨⟨h0,h1⟩,rfl,rfl⟩:=h
    obtain⟨hs,_⟩:=vT ht
    have qD:n.toNat<List.length l:=by omega
    rcases((hx _ rfl).vQ rfl).XK with⟨rfl,_⟩ | ⟨blk,off,cap,f,he,wI,vJ,hh,hc⟩
    ·cases qD
    ·cases he
     rw[VN qD]
     refine qH.pure hi ?_ (.xe e _ (f n.toNat) blk (off+n.toNat*e.size) wI (hh _ qD) λj v hj=>hc _ qD j v hj)
     simp[Instr.indexAt,asIntOf,run_underlying hu,h0,h1,run_sizeOf hs,ub]
  ·rename_i e l ne
   cases ht:kX c et e with
   | false=>rw[ht]at h; exact absurd h zh
   | true =>
    rw[ht,cond_true,vU]at h
    obtain⟨⟨h0,h1⟩,rfl,rfl⟩:=h
    obtain⟨hs,_⟩:=vT ht
    have qD:n.toNat<List.length l:=by omega
    cases hx _ rfl with
    | xw=>cases qD
    | tight _ _ _ blk off f uh wI hh hc =>
     rw[VN qD]
     refine qH.pure hi ?_ (.xe e _ (f n.toNat) blk (off+n.toNat*e.size) wI (hh _ qD) λj v hj=>hc _ qD j v hj)
     simp[Instr.indexAt,asIntOf,run_underlying hu,h0,h1,run_sizeOf hs,ub]
  ·rename_i b qJ e off len
   cases ht:kX c et e with
   | false=>rw[ht]at h; exact absurd h zh
   | true =>
    rw[ht,cond_true,vU]at h
    obtain⟨⟨h0,h1⟩,rfl,rfl⟩:=h
    obtain⟨hs,_⟩:=vT ht
    cases hx _ rfl with
    | ms _ _ _ _ _ cap a hold vJ ha nN hm =>
     cases a with
     | none=>grind
     | some p =>
      have hp:=nN p rfl
      obtain⟨blk,o,sp⟩:=p
      subst hp
      refine qH.pure hi (v:=.pointer (some ⟨blk,o+n.toNat*e.size,none⟩)) ?_ (.uQ b qJ e (off+n.toNat) 0 blk _ hold λxs hb qD => ?_)
      ·simp[Instr.indexAt,asIntOf,run_underlying hu,h0,h1,run_sizeOf hs,ub]
      ·obtain⟨hle,⟨_,_,hv,_⟩ | ⟨lN,n',o',Fu,h3,h4,h5,h6,h7⟩⟩:=hm xs hb
       ·cases hv
       ·grind
  ·exact absurd h zh
 ·exact absurd h zh
theorem O1(s:zd){i:Nat}(h:i<s.length):(⟨s.toArray⟩:ByteArray)[i]? = some s[i]:=by
 have jv:(⟨s.toArray⟩:ByteArray).size=s.length:=rfl
 rw[getElem?_pos _ _ (by grind)]
 rfl
theorem FH{t:Nat}{x i:Option D}{v u:Value}{d:Option D}{zx:St}(hi:Inv κ)(hx:∀ y,x=some y->RD κ y v)(hy:∀ y,i=some y->RD κ y u)
  (h:(zR (Hv c t x i) κ.st).leads (d,zx)):qH c.P (do Pure.pure (.value (<- Instr.index t v u))) κ d zx:=by
 unfold Hv at h
 split at h
 ·rename_i k n s V9 hs hu
  have hu':=uG V9 hy
  subst hu'
  have hv:=pc hs hx
  subst hv
  obtain⟨⟨h0,h1⟩,rfl,rfl⟩:=h
  have qD:n.toNat<s.length:=by omega
  rw[VN qD]
  exact qH.pure hi (by simp[Instr.index,asIntOf,run_underlying hu,h0,O1 s qD]) RD.int
 ·exact absurd h zh
def WW(κ:KS):Option (Option D)->Option Value->Prop
 | none,none=>True
 | some x,some v=>∀ y,x=some y->RD κ y v
 | _,_=>False
theorem Uh{d n:Int}{x:Option (Option D)}{v:Option Value}(h:Ok d x=some n)(hx:WW κ x v):(x=none/\v=none/\n=d)\/(x.isSome/\∃ k,v=some (.int k n)):=by
 cases x with
 | none=>cases v with
  | none=>exact .inl ⟨rfl,rfl,by simpa[Ok]using h.symm⟩
  | some v=>exact hx.elim
 | some x=>cases v with
  | none=>exact hx.elim
  | some v =>
   simp only[Ok]at h
   split at h
   ·rename_i k i hk; cases h; exact .inr ⟨rfl,k,by rw[uG hk hx]⟩
   ·cases h
end
end Go.AM
namespace Go.AM
set_option linter.unusedSectionVars false
variable [ur]
section
variable {c:Ctx} {κ:KS}
theorem kF{P:Program}{isS:Bool}{len cap:Nat}{lo hi mx:Option Value}{l h:Int}{m:Nat}
  (hl:(lo=none/\l=0)\/∃ k,lo=some (.int k l)) (hh:(hi=none/\mx=none/\h=len)\/∃ k,hi=some (.int k h))
  (hm:(mx=none/\m=cap)\/∃ k,mx=some (.int k m)) (h0:0<=l) (h1:l<=h) (h2:h<=m) (h3:m<=cap) (w:World) :
  (Instr.sliceBounds isS len cap lo hi mx).run P w=.ok (l.toNat,h.toNat,m) w:=by
 have hh0:(0:Int)<=h:=by omega
 have Vd:l<=(h.toNat:Int):=by omega
 rcases hl with⟨rfl,rfl⟩ | ⟨k1,rfl⟩<;>rcases hm with⟨rfl,rfl⟩ | ⟨k3,rfl⟩<;>rcases hh with⟨rfl,hx,rfl⟩ | ⟨k2,rfl⟩ <;>
  first
   | (cases hx; done)
   | (simp[Instr.sliceBounds,run_sliceBound, *]; done)
   | (simp[Instr.sliceBounds,run_sliceBound, *]; rw[run_sliceBound _ _ _ _ _ h0 Vd]; rfl)
theorem C6(s:zd)(l h:Int):(⟨s.toArray⟩:ByteArray).extract l.toNat h.toNat=⟨(qC l h s).toArray⟩:=by
 apply ByteArray.ext
 simp[qC,List.drop_take]
theorem JB{n:Int}{x:Option (Option D)}{v:Option Value}(h:Ok 0 x=some n)(hx:WW κ x v):(v=none/\n=0)\/∃ k,v=some (.int k n):=by
 rcases Uh h hx with⟨_,h1,h2⟩ | ⟨_,h1⟩
 ·grind
 ·grind
theorem Hl{d n:Int}{x:Option (Option D)}{v:Option Value}(h:Ok d x=some n)(hx:WW κ x v):(v=none/\n=d)\/∃ k,v=some (.int k n):=by
 rcases Uh h hx with⟨_,h1,h2⟩ | ⟨_,h1⟩
 ·grind
 ·grind
theorem Q9{v:Option Value}(h:WW κ none v):v=none:=by cases v with | none=>rfl | some _=>exact h.elim
theorem sr{e:Ty}{l:List (den e)}{lo hi:Int}(h0:0<=lo)(h1:lo<=hi)(h2:hi<=(l.length:Int)) :
  (wi lo hi l).length=hi.toNat-lo.toNat/\∀ i (Kk:i<(wi lo hi l).length),∃ h:lo.toNat+i<l.length,(wi lo hi l)[i]=l[lo.toNat+i]:=by
 have hlen:(wi lo hi l).length=hi.toNat-lo.toNat:=by simp[wi]; omega
 refine⟨hlen,λi Kk=>⟨by omega,?_⟩⟩
 simp[wi]
theorem I0{e:Ty}{l:List (den e)}{lo hi:Int}{blk off cap m:Nat}{f:Nat->List Value}(wI:κ.ok blk)
  (hh:∀ i (hi:i<l.length),Rc κ.w κ.ok e l[i] (f i)) (hc:∀ i,i<l.length->∀ j v,(f i)[j]? = some v->κ.w.cell? ⟨blk,off+i*e.size+j,none⟩=some v)
  (h0:0<=lo) (h1:lo<=hi) (h2:hi<=(l.length:Int)) (hm:hi<=(m:Int)) (vJ:m<=cap) :
  (∀ i (Kk:i<(wi lo hi l).length),Rc κ.w κ.ok e (wi lo hi l)[i] (f (lo.toNat+i))) /\
  (∀ i,i<(wi lo hi l).length->∀ j v,(f (lo.toNat+i))[j]? = some v ->
   κ.w.cell? ⟨blk,(if m=lo.toNat then off else off+lo.toNat*e.size)+i*e.size+j,none⟩=some v)/\(wi lo hi l).length<=m-lo.toNat:=by
 obtain⟨hl,hg⟩:=sr h0 h1 h2
 refine⟨λi Kk => ?_,λi Kk j v hj => ?_,by omega⟩
 ·obtain⟨h3,h4⟩:=hg i Kk
  rw[h4]; exact hh _ h3
 ·obtain⟨h3,h4⟩:=hg i Kk
  have:=hc _ h3 j v hj
  rw[if_neg (by omega)]
  rw[Nat.add_mul,<- Nat.add_assoc]at this
  exact this
theorem El{t:Nat}{x:Option D}{lo hi mx:Option (Option D)}{v:Value}{vl vh vm:Option Value}{d:Option D}{zx:St}(hI:Inv κ)(hx:∀ y,x=some y->RD κ y v)
  (hlo:WW κ lo vl) (hhi:WW κ hi vh) (hmx:WW κ mx vm)
  (h:(zR (Ha c t x lo hi mx) κ.st).leads (d,zx)):qH c.P (do Pure.pure (.value (<- Instr.sliceAt t v vl vh vm))) κ d zx:=by
 unfold Ha at h
 split at h
 ·rename_i s
  obtain⟨s,rfl⟩:∃ s':zd,s=s':=⟨s,rfl⟩
  split at h
  ·rename_i l hh hu hl hh'
   rw[vU]at h
   obtain⟨⟨h0,h1,h2⟩,rfl,rfl⟩:=h
   have hv:=(hx _ rfl).vc
   subst hv
   have e1:=Q9 hmx
   subst e1
   refine qH.pure hI ?_ RD.str
   have jv:(⟨s.toArray⟩:ByteArray).size=s.length:=rfl
   have hb:=kF (P:=c.P) (isS:=false) (len:=s.length) (cap:=s.length) (mx:=none) (m:=s.length) (JB hl hlo)
    (eV (Hl hh' hhi) (λh=>⟨h.1,rfl,h.2⟩) id) (.inl ⟨rfl,rfl⟩) h0 h1 h2 (Nat.le_refl _) κ.w
   simp only[Instr.sliceAt,Sem.run_bind,run_underlying hu,Result.andThen_ok,Instr.slice,Option.isSome_none,Bool.false_eq_true,if_false,jv,hb,C6]
   rfl
  ·exact absurd h zh
 ·rename_i e s
  split at h
  ·rename_i et l hh het hl hh'
   have hu:=uN het
   cases ht:kX c et e with
   | false=>rw[ht]at h; exact absurd h zh
   | true =>
    obtain⟨hs,_⟩:=vT ht
    rw[ht,cond_true]at h
    split at h
    ·rw[vU]at h
     obtain⟨⟨h0,h1,h2⟩,rfl,rfl⟩:=h
     have e1:=Q9 hmx
     subst e1
     have Kh:=JB hl hlo
     have KU:(vh=none/\(none:Option Value)=none/\hh=(s.length:Int))\/∃ k,vh=some (.int k hh):=eV (Hl hh' hhi) (λh=>⟨h.1,rfl,h.2⟩) id
     rcases((hx _ rfl).vQ rfl).XK with⟨rfl,a0,he⟩ | ⟨blk,off,cap,f,he,wI,vJ,NP,Fa⟩
     ·cases he
      simp only[List.length_nil,Int.cast_ofNat_Int]at h2
      have hb:=kF (P:=c.P) (isS:=true) (len:=0) (cap:=0) (mx:=none) (m:=0) Kh KU (.inl ⟨rfl,rfl⟩) h0 h1 h2 (Nat.le_refl _) κ.w
      have e0:l=0:=by omega
      have e2:hh=0:=by omega
      subst e0 e2
      refine qH.pure hI (v:=.slice a0 0 0) ?_ (.nw rfl (.lj e a0))
      simp[Instr.sliceAt,run_underlying hu,Instr.slice,hb,run_sizeOf hs]
     ·cases he
      obtain⟨k1,k2,k3⟩:=I0 (lo:=l) (hi:=hh) (cap:=cap) (m:=cap) wI NP Fa h0 h1 h2 (by omega) (Nat.le_refl _)
      have hb:=kF (P:=c.P) (isS:=true) (len:=s.length) (cap:=cap) (mx:=none) (m:=cap) Kh KU (.inl ⟨rfl,rfl⟩) h0 h1 (by omega) (Nat.le_refl _) κ.w
      have hlen:=(sr h0 h1 h2).1
      refine qH.pure hI ?_ (.nw rfl (.sl e (wi l hh s) blk _ (cap-l.toNat) _ wI k3 k1 k2))
      simp only[Instr.sliceAt,Sem.run_bind,run_underlying hu,Result.andThen_ok,Instr.slice,hb,run_sizeOf hs,Sem.run_pure,hlen]
      congr 3
      split<;>simp[ub]
    ·split at h
     ·rename_i mx m km mi hm'
      cases hhs:hi.isSome with
      | false=>rw[hhs]at h; exact absurd h zh
      | true =>
      rw[hhs,cond_true,vU]at h
      obtain⟨⟨h0,h1,rfl,h2⟩,rfl,rfl⟩:=h
      obtain⟨vm,rfl⟩:∃ u,vm=some u:=by cases vm with | none=>exact hmx.elim | some u=>exact⟨u,rfl⟩
      have hvm:=uG hm' hmx
      subst hvm
      have Kh:=JB hl hlo
      have KU:(vh=none/\(some (Value.int km hh):Option Value)=none/\hh=(s.length:Int))\/∃ k,vh=some (.int k hh):=by
       rcases Uh hh' hhi with⟨g1,_⟩ | ⟨_,g⟩
       ·rw[g1]at hhs; cases hhs
       ·exact .inr g
      have em:((hh.toNat:Nat):Int)=hh:=by omega
      rcases((hx _ rfl).vQ rfl).XK with⟨rfl,a0,he⟩ | ⟨blk,off,cap,f,he,wI,vJ,NP,Fa⟩
      ·cases he
       simp only[List.length_nil,Int.cast_ofNat_Int]at h2
       have hb:=kF (P:=c.P) (isS:=true) (len:=0) (cap:=0) (mx:=some (.int km hh)) (m:=hh.toNat) Kh KU (.inr ⟨km,by rw[em]⟩) h0 h1 (by omega) (by omega) κ.w
       have e0:l=0:=by omega
       have e2:hh=0:=by omega
       subst e0 e2
       refine qH.pure hI (v:=.slice a0 0 0) ?_ (.xw e a0)
       simp[Instr.sliceAt,run_underlying hu,Instr.slice,hb,run_sizeOf hs]
      ·cases he
       obtain⟨k1,k2,k3⟩:=I0 (lo:=l) (hi:=hh) (cap:=cap) (m:=hh.toNat) wI NP Fa h0 h1 h2 (by omega) (by omega)
       have hb:=kF (P:=c.P) (isS:=true) (len:=s.length) (cap:=cap) (mx:=some (.int km hh)) (m:=hh.toNat) Kh KU (.inr ⟨km,by rw[em]⟩) h0 h1 (by omega) (by omega) κ.w
       have hlen:=(sr h0 h1 h2).1
       refine qH.pure hI ?_ (.tight e (wi l hh s) false blk _ _ nofun wI k1 k2)
       simp only[Instr.sliceAt,Sem.run_bind,run_underlying hu,Result.andThen_ok,Instr.slice,hb,run_sizeOf hs,Sem.run_pure,hlen]
       congr 3
       split<;>simp[ub]
     ·exact absurd h zh
  ·exact absurd h zh
 ·rename_i e s ne
  split at h
  ·rename_i et l hh het hl hh'
   have hu:=uN het
   cases ht:kX c et e with
   | false=>rw[ht]at h; exact absurd h zh
   | true =>
    obtain⟨hs,_⟩:=vT ht
    rw[ht,cond_true,vU]at h
    obtain⟨⟨h0,h1,h2⟩,rfl,rfl⟩:=h
    have e1:=Q9 hmx
    subst e1
    have Kh:=JB hl hlo
    have KU:(vh=none/\(none:Option Value)=none/\hh=(s.length:Int))\/∃ k,vh=some (.int k hh):=eV (Hl hh' hhi) (λh=>⟨h.1,rfl,h.2⟩) id
    cases hx _ rfl with
    | xw _ a0 =>
     simp only[List.length_nil,Int.cast_ofNat_Int]at h2
     have hb:=kF (P:=c.P) (isS:=true) (len:=0) (cap:=0) (mx:=none) (m:=0) Kh KU (.inl ⟨rfl,rfl⟩) h0 h1 h2 (Nat.le_refl _) κ.w
     have e0:l=0:=by omega
     have e2:hh=0:=by omega
     subst e0 e2
     refine qH.pure hI (v:=.slice a0 0 0) ?_ (.nw rfl (.lj e a0))
     simp[Instr.sliceAt,run_underlying hu,Instr.slice,hb,run_sizeOf hs]
    | tight _ _ _ blk off f uh wI NP Fa =>
     obtain⟨k1,k2,k3⟩:=I0 (lo:=l) (hi:=hh) (cap:=s.length) (m:=s.length) wI NP Fa h0 h1 h2 (by omega) (Nat.le_refl _)
     have hb:=kF (P:=c.P) (isS:=true) (len:=s.length) (cap:=s.length) (mx:=none) (m:=s.length) Kh KU (.inl ⟨rfl,rfl⟩) h0 h1 (by omega) (Nat.le_refl _) κ.w
     have hlen:=(sr h0 h1 h2).1
     refine qH.pure hI ?_ (.nw rfl (.sl e (wi l hh s) blk _ (s.length-l.toNat) _ wI k3 k1 k2))
     simp only[Instr.sliceAt,Sem.run_bind,run_underlying hu,Result.andThen_ok,Instr.slice,hb,run_sizeOf hs,Sem.run_pure,hlen]
     congr 3
     split<;>simp[ub]
  ·exact absurd h zh
 ·rename_i b qJ e off len
  split at h
  ·rename_i et l hh het hl hh'
   have hu:=uN het
   cases ht:kX c et e with
   | false=>rw[ht]at h; exact absurd h zh
   | true =>
    obtain⟨hs,_⟩:=vT ht
    rw[ht,cond_true,vU]at h
    obtain⟨⟨h0,h1,h2⟩,rfl,rfl⟩:=h
    have e1:=Q9 hmx
    subst e1
    have Kh:=JB hl hlo
    have KU:(vh=none/\(none:Option Value)=none/\hh=(len:Int))\/∃ k,vh=some (.int k hh):=eV (Hl hh' hhi) (λh=>⟨h.1,rfl,h.2⟩) id
    cases hx _ rfl with
    | ms _ _ _ _ _ cap a hold vJ ha nN hm =>
     have hb:=kF (P:=c.P) (isS:=true) (len:=len) (cap:=cap) (mx:=none) (m:=cap) Kh KU (.inl ⟨rfl,rfl⟩) h0 h1 (by omega) (Nat.le_refl _) κ.w
     refine qH.pure hI (v:=.slice (if cap=l.toNat then a else a.map (·.add (l.toNat*e.size))) (hh.toNat-l.toNat) (cap-l.toNat)) ?_ (.ms b qJ e _ _ _ _ hold (by omega) ?_ ?_ ?_)
     ·simp only[Instr.sliceAt,Sem.run_bind,run_underlying hu,Result.andThen_ok,Instr.slice,hb,run_sizeOf hs,Sem.run_pure]
     ·intro hn
      split at hn
      ·have:=ha hn; omega
      ·cases a with | none=>have:=ha rfl; omega | some p=>cases hn
     ·intro p hp
      split at hp
      ·exact nN p hp
      ·cases a with
       | none=>cases hp
       | some q =>
        obtain⟨q1,q2,q3⟩:=q
        have:=nN _ rfl
        simp only at this
        subst this
        simp only[Option.map_some,ub,Option.some.injEq]at hp
        subst hp; rfl
     ·intro xs JR
      obtain⟨hle,⟨rfl,rfl,hv,hp⟩ | ⟨lN,n',o',Fu,h3,h4,h5,h6,h7⟩⟩:=hm xs JR
      ·cases hv
       have e0:l=0:=by omega
       have e2:hh=0:=by omega
       subst e0 e2
       exact⟨by simp,.inl ⟨rfl,rfl,rfl,hp⟩⟩
      ·cases h4
       refine⟨by omega,.inr ?_⟩
       by_cases Xi:cap=l.toNat
       ·refine⟨lN,n',o',0,h3,?_,by omega,?_,.inl rfl⟩
        ·simp[Xi]
        ·have:(off+l.toNat+0)=off+cap:=by omega
         rw[this]; exact h6
       ·refine⟨lN,n',o'+l.toNat*e.size,cap-l.toNat,h3,?_,by omega,?_,.inr ?_⟩
        ·simp[Xi,ub]
        ·have:off+l.toNat+(cap-l.toNat)=off+cap:=by omega
         rw[this]; exact h6
        ·rcases h7 with h7 | h7
         ·omega
         ·rw[h7,Nat.add_mul]
  ·exact absurd h zh
 ·exact absurd h zh
end
end Go.AM
namespace Go.AM
set_option linter.unusedSectionVars false
variable [ur]
section
variable {c:Ctx} {κ:KS}
theorem rH(op:BinOp)(t:Nat)(x y:Operand)(k k':IntKind)(a b:Int)(P:Program)(w:World):(eqGuard op t x y (.int k a) (.int k' b)).run P w=.ok () w:=by
 unfold eqGuard; split<;>simp
theorem BR(op:BinOp)(t:Nat)(x y:Operand)(a b:ByteArray)(P:Program)(w:World):(eqGuard op t x y (.string a) (.string b)).run P w=.ok () w:=by
 unfold eqGuard; split<;>simp
theorem Hm(op:BinOp)(t:Nat)(x y:Operand)(a b:Bool)(P:Program)(w:World):(eqGuard op t x y (.bool a) (.bool b)).run P w=.ok () w:=by
 unfold eqGuard; split<;>simp
theorem mq{k:IntKind}{n:Int}{st zx:St}{d:Option D}:(zR (ib k n) st).leads (d,zx)↔d=some (.zC (.int k) n)/\zx=st:=kh
theorem pK{b:Bool}{st zx:St}{d:Option D}:(zR (bb b) st).leads (d,zx)↔d=some (.zC .bool b)/\zx=st:=kh
theorem I9{op:BinOp}{k:IntKind}{a b:Int}{d:Option D}{st zx:St}{t:Nat}(h:(zR (EP op k a b) st).leads (d,zx))(hs:Vw op=false) :
  ∃ y v,d=some y/\zx=st/\(binOp op t (.int k a) (.int k b)).run c.P κ.w=.ok v κ.w/\RD κ y v:=by
 cases op<;>simp only[EP]at h<;>try (exact absurd h zh)
 all_goals first
  | (rw[mq]at h; obtain⟨rfl,rfl⟩:=h; exact⟨_,_,rfl,rfl,by simp[binOp,Op.intArith,Op.intBits,rB],RD.int⟩)
  | (rw[pK]at h; obtain⟨rfl,rfl⟩:=h; exact⟨_,_,rfl,rfl,by simp[binOp,Op.intCmp],RD.bool⟩)
  | (rw[vU]at h; obtain⟨hb,rfl,rfl⟩:=h; exact⟨_,_,rfl,rfl,by simp[binOp,Op.intDiv,hb],RD.int⟩)
theorem Jw(s:zd):(⟨s.toArray⟩:ByteArray).toList=s:=by simp
theorem Il{op:BinOp}{a b:zd}{d:Option D}{st zx:St}{t:Nat}(h:(zR (FG op a b) st).leads (d,zx))(hs:Vw op=false) :
  ∃ y v,d=some y/\zx=st/\(binOp op t (.string ⟨a.toArray⟩) (.string ⟨b.toArray⟩)).run c.P κ.w=.ok v κ.w/\RD κ y v:=by
 have jv:∀ s:zd,(⟨s.toArray⟩:ByteArray).size=s.length:=λ_=>rfl
 cases op<;>simp only[FG]at h<;>try (exact absurd h zh)
 case add =>
  rw[vU]at h; obtain⟨hb,rfl,rfl⟩:=h
  refine⟨_,_,rfl,rfl,?_,RD.str⟩
  have e:(⟨a.toArray⟩++⟨b.toArray⟩:ByteArray)=⟨(cat a b).toArray⟩:=by
   rfl
  have hn:¬ (IntKind.i64.max<((a.length+b.length:Nat):Int)):=by
   have:IntKind.i64.max=9223372036854775807:=by decide
   omega
  simp only[binOp,Op.stringOp,jv,hn]
  rfl
 all_goals (rw[pK]at h; obtain⟨rfl,rfl⟩:=h; exact⟨_,_,rfl,rfl,by simp[binOp,Op.stringOp,zi,strLt],RD.bool⟩)
theorem Eo{P:Program}{t:Nat}(hu:P.underlying t=some .bool)(a b:Bool)(w:World):(Op.equal t (.bool a) (.bool b)).run P w=.ok (a==b) w:=by
 show(Op.equalIn (9999+1) t _ _).run P w=_
 rw[Op.equalIn]
 simp[run_underlying hu]
theorem FP{a:Ty}{t:Nat}(h:z3p c a t=true):(∃ k,a=.int k/\c.P.underlying t=some (.int k))\/(a=.bool/\c.P.underlying t=some .bool)\/(a=.str/\c.P.underlying t=some .string):=by
 unfold z3p at h
 grind
theorem F7{P:Program}{t:Nat}{u:TypeDesc}(h:P.underlying t=some u)(hn:(match u with | .struct _ | .array _ _=>true | _=>false)=false)(w:World):(isAgg t).run P w=.ok false w:=by
 simp only[isAgg,Sem.run_bind,run_underlying h]
 cases u<;>first | rfl | cases hn
theorem cx{P:Program}{t:Nat}{u:TypeDesc}(h:P.underlying t=some u)(hn:(match u with | .struct _ | .array _ _=>true | _=>false)=false)(pre:List Value)(v:Value)(cs:List Value)(w:World) :
  (part t (pre++v::cs).toArray pre.length).run P w=.ok v w:=by
 simp only[part,Sem.run_bind,F7 h hn]
 simp
theorem Qx{w:World}{ok:Nat->Prop}(dp:Nat):∀ (τ:Ty) (a b:den τ) (off:Nat) (fs:List Field) (pre U8 cs cV:List Value),QB c τ off fs=true->Rc w ok τ a cs->Rc w ok τ b cV->pre.length=off->U8.length=off ->
  (Op.eqFields (dp+1) (pre++cs).toArray (U8++cV).toArray fs).run c.P w=.ok (eqT τ a b) w
 | .nil,_,_,_,fs,pre,U8,cs,cV,h,_,_,_,_=>by
  cases fs with
  | nil=>rfl
  | cons f fs=>cases h
 | .cons a r,x,y,off,fs,pre,U8,cs,cV,h,hx,hy,hp,hp'=>by
  cases fs with
  | nil=>cases h
  | cons f fs =>
   have h:(decide (f.name ≠ "_")&&(Nat.beq f.offset off&&(z3p c a f.type&&QB c r (off+1) fs)))=true:=h
   simp only[Bool.and_eq_true,decide_eq_true_eq]at h
   obtain⟨h1,h2,h3,h4⟩:=h
   have h2:=Nat.eq_of_beq_eq_true h2
   obtain⟨c1,c2,rfl,g1,g2⟩:=hx.cons_inv
   obtain⟨e1,e2,rfl,k1,k2⟩:=hy.cons_inv
   have ih:=λv v'=>Qx dp r x.2 y.2 (off+1) fs (pre++[v]) (U8++[v']) c2 e2 h4 g2 k2 (by simp[hp]) (by simp[hp'])
   have fin:∀ (v v':Value) (q:Bool),c1=[v]->e1=[v']->(part f.type (pre++v::c2).toArray f.offset).run c.P w=.ok v w->(part f.type (U8++v'::e2).toArray f.offset).run c.P w=.ok v' w->(Op.equalIn (dp+1) f.type v v').run c.P w=.ok q w->eqT a x.1 y.1=q ->
     (Op.eqFields (dp+1) (pre++(c1++c2)).toArray (U8++(e1++e2)).toArray (f::fs)).run c.P w=.ok (eqT (.cons a r) x y) w:=by
    rintro v v' q rfl rfl p1 p2 p3 p4
    show(Op.eqFields (dp+1) (pre++v::c2).toArray (U8++v'::e2).toArray (f::fs)).run c.P w=.ok (eqT a x.1 y.1&&eqT r x.2 y.2) w
    rw[Op.eqFields,if_pos h1]
    simp only[Sem.run_bind,p1,p2,p3,Result.andThen_ok]
    rw[p4]
    cases q with
    | false=>rfl
    | true =>
     grind
   subst hp
   rcases FP h3 with⟨k,rfl,hu⟩ | ⟨rfl,hu⟩ | ⟨rfl,hu⟩
   ·exact fin _ _ _ g1.yW k1.yW (by rw[h2]; exact cx hu rfl pre _ c2 w) (by rw[h2,<- hp']; exact cx hu rfl U8 _ e2 w) (run_equalIn_int w dp _ k k _ _ hu) rfl
   ·exact fin _ _ _ g1.kN k1.kN (by rw[h2]; exact cx hu rfl pre _ c2 w) (by rw[h2,<- hp']; exact cx hu rfl U8 _ e2 w) (run_equalIn_bool' w dp _ _ _ hu) rfl
   ·refine fin _ _ _ g1.vc k1.vc (by rw[h2]; exact cx hu rfl pre _ c2 w) (by rw[h2,<- hp']; exact cx hu rfl U8 _ e2 w) (run_equalIn_string w dp _ _ _ hu) ?_
    rw[Jw,Jw]
    rfl
 | .int _,_,_,_,_,_,_,_,_,h,_,_,_,_=>by simp[QB]at h
 | .bool,_,_,_,_,_,_,_,_,h,_,_,_,_=>by simp[QB]at h
 | .str,_,_,_,_,_,_,_,_,h,_,_,_,_=>by simp[QB]at h
 | .sl _,_,_,_,_,_,_,_,_,h,_,_,_,_=>by simp[QB]at h
 | .expr,_,_,_,_,_,_,_,_,h,_,_,_,_=>by simp[QB]at h
theorem EZ{op:BinOp}{t:Nat}{px py:Operand}{x y:Option D}{v u:Value}{d:Option D}{zx:St}(hI:Inv κ)(hx:∀ z,x=some z->RD κ z v)(hy:∀ z,y=some z->RD κ z u)
  (h:(zR (RX c op t x y) κ.st).leads (d,zx)):qH c.P (do Pure.pure (.value (<- (do eqGuard op t px py v u; binOp op t v u)))) κ d zx:=by
 unfold RX at h
 split at h
 ·rename_i τ a σ b
  split at h
  ·rename_i b' hb
   unfold vN at hb
   split at hb
   ·rename_i e
    subst e
    injection hb with hb
    subst hb
    cases hg:σ.isAgg&&Jm c σ t with
    | false=>rw[hg]at h; exact absurd h zh
    | true =>
     rw[hg,cond_true]at h
     rw[Bool.and_eq_true]at hg
     obtain⟨hag,hso⟩:=hg
     unfold Jm at hso
     split at hso
     ·rename_i fs hu
      simp at hso
      obtain⟨f1,f2,f3⟩:=hso
      have hfo:c.P.fieldsOf t=fs:=by unfold Program.fieldsOf; rw[hu]
      cases hx _ rfl with
      | zC _ _ cs g1 =>
      cases hy _ rfl with
      | zC _ _ cV g2 =>
       have e1:pk σ cs=.agg cs.toArray:=by unfold pk; rw[if_pos hag]
       have e2:pk σ cV=.agg cV.toArray:=by unfold pk; rw[if_pos hag]
       have hr:=Qx (c:=c) 9998 σ a b 0 fs.toList [] [] cs cV f1 g1 g2 rfl rfl
       have hq:(Op.equalIn 10000 t (.agg cs.toArray) (.agg cV.toArray)).run c.P κ.w=.ok (eqT σ a b) κ.w:=by
        rw[show(10000:Nat)=9999+1 from rfl,run_equalIn_agg κ.w 9999 t _ _ (by grind) f2,hfo]
        exact hr
       rw[e1,e2]
       cases op<;>try (exact absurd h zh)
       ·rw[pK]at h; obtain⟨rfl,rfl⟩:=h
        refine qH.pure hI ?_ RD.bool
        simp only[Sem.run_bind,run_eqGuard_agg κ.w _ t px py _ _ f3,Result.andThen_ok,run_eql_struct,hq]
       ·rw[pK]at h; obtain⟨rfl,rfl⟩:=h
        refine qH.pure hI ?_ RD.bool
        simp only[Sem.run_bind,run_eqGuard_agg κ.w _ t px py _ _ f3,Result.andThen_ok,run_neq_struct,hq]
     ·cases hso
   ·cases hb
  ·exact absurd h zh
 ·exact absurd h zh
theorem SD{op:BinOp}{t:Nat}{px py:Operand}{x y:Option D}{v u:Value}{d:Option D}{zx:St}(hI:Inv κ)(hx:∀ z,x=some z->RD κ z v)(hy:∀ z,y=some z->RD κ z u)
  (h:(zR (FZ c op t x y) κ.st).leads (d,zx)):qH c.P (do Pure.pure (.value (<- (do eqGuard op t px py v u; binOp op t v u)))) κ d zx:=by
 unfold FZ at h
 split at h
 ·rename_i k a k' b hk HL
  have:=uG hk hx
  subst this
  have:=uG HL hy
  subst this
  split at h
  ·rw[vU]at h
   obtain⟨hb,rfl,rfl⟩:=h
   refine qH.pure hI ?_ RD.int
   simp only[Sem.run_bind,rH,Result.andThen_ok,binOp,Op.shift,if_neg (show ¬ b<0 by omega)]
   rfl
  ·rw[vU]at h
   obtain⟨hb,rfl,rfl⟩:=h
   refine qH.pure hI ?_ RD.int
   simp only[Sem.run_bind,rH,Result.andThen_ok,binOp,Op.shift,if_neg (show ¬ b<0 by omega)]
   rfl
  ·rename_i n1 n2
   cases he:decide (k=k')with
   | false=>rw[he]at h; exact absurd h zh
   | true =>
    have Sg:=of_decide_eq_true he
    subst Sg
    rw[he,cond_true]at h
    obtain⟨y',v',rfl,rfl,h1,h2⟩:=I9 (c:=c) (κ:=κ) (t:=t) h (by cases op<;>first | rfl | (exact absurd rfl n1) | (exact absurd rfl n2))
    exact qH.pure hI (by simp only[Sem.run_bind,rH,Result.andThen_ok,h1]) h2
 ·split at h
  ·rename_i a b ha hb
   have:=pc ha hx
   subst this
   have:=pc hb hy
   subst this
   cases hs:Vw op with
   | true=>rw[hs]at h; exact absurd h zh
   | false =>
    rw[hs,cond_false]at h
    obtain⟨y',v',rfl,rfl,h1,h2⟩:=Il (c:=c) (κ:=κ) (t:=t) h hs
    exact qH.pure hI (by simp only[Sem.run_bind,BR,Result.andThen_ok,h1]) h2
  ·split at h
   ·rename_i a b hu ha hb
    have:=sj ha hx
    subst this
    have:=sj hb hy
    subst this
    cases op<;>simp only[PB]at h<;>try (exact absurd h zh)
    all_goals
     rw[pK]at h; obtain⟨rfl,rfl⟩:=h
     refine qH.pure hI ?_ RD.bool
     simp only[Sem.run_bind,Hm,Result.andThen_ok,binOp,Eo hu,Sem.run_pure]
   ·exact EZ hI hx hy h
theorem z3C{op:UnOp}{x:Option D}{v:Value}{d:Option D}{zx:St}(hI:Inv κ)(hx:∀ z,x=some z->RD κ z v)
  (h:(zR (SB op x) κ.st).leads (d,zx)):qH c.P (do Pure.pure (.value (<- Op.unary op v))) κ d zx:=by
 unfold SB at h
 split at h
 ·split at h
  ·rename_i k n hk
   have:=uG hk hx
   subst this
   obtain⟨rfl,rfl⟩:=h
   exact qH.pure hI (by rfl) RD.int
  ·exact absurd h zh
 ·split at h
  ·rename_i b hb
   have:=sj hb hx
   subst this
   obtain⟨rfl,rfl⟩:=h
   exact qH.pure hI (by rfl) RD.bool
  ·exact absurd h zh
 ·split at h
  ·rename_i k n hk
   have:=uG hk hx
   subst this
   obtain⟨rfl,rfl⟩:=h
   exact qH.pure hI (by rfl) RD.int
  ·exact absurd h zh
 ·exact absurd h zh
theorem z2w{t ty:Nat}{ts:Array Nat}{x:Option D}{v:Value}{vs:Array Value}{d:Option D}{zx:St}(hI:Inv κ)(hx:∀ z,x=some z->RD κ z v)(ht:ts[0]? = some t)(hv:vs[0]? = some v)
  (h:(zR (RR c t x) κ.st).leads (d,zx)):qH c.P (do Pure.pure (.value (<- Builtin.len_ ts ty vs))) κ d zx:=by
 unfold RR at h
 split at h
 ·rename_i e hu
  have key:∀ (n:Nat) (a:Option Addr) (cap:Nat),v=.slice a n cap->d=some (.zC (.int .i64) (n:Int))->zx=κ.st->qH c.P (do Pure.pure (.value (<- Builtin.len_ ts ty vs))) κ d zx:=by
   rintro n a cap rfl rfl rfl
   exact qH.pure hI (by simp[Builtin.len_,ht,hv,run_underlying hu,goInt]) RD.int
  split at h
  ·rename_i e' l
   rw[mq]at h
   rcases((hx _ rfl).vQ rfl).XK with⟨rfl,a0,he⟩ | ⟨blk,off,cap,f,he,_⟩
   ·grind
   ·grind
  ·rename_i e' l ne
   rw[mq]at h
   cases hx _ rfl with
   | xw _ a0=>grind
   | tight=>grind
  ·rw[mq]at h
   cases hx _ rfl
   grind
  ·rw[mq]at h
   cases hx _ rfl
   grind
  ·exact absurd h zh
 ·rename_i hu
  split at h
  ·rename_i s hs
   have:=pc hs hx
   subst this
   obtain⟨rfl,rfl⟩:=h
   have jv:(⟨s.toArray⟩:ByteArray).size=s.length:=rfl
   exact qH.pure hI (by simp only[Builtin.len_,ht,hv,Sem.run_bind,run_underlying hu,Result.andThen_ok,goInt,jv,Sem.run_pure]) RD.int
  ·exact absurd h zh
 ·exact absurd h zh
theorem EV{f:Int->Int->Int}{g:Value->Value->Sem Value}{P:Program}(hg:∀ k k' a b,(g (.int k a) (.int k' b)).run P κ.w=.ok (.int k (f a b)) κ.w){x y:Option D}{v u:Value}{d:Option D}{zx:St}
  (hI:Inv κ) (hx:∀ z,x=some z->RD κ z v) (hy:∀ z,y=some z->RD κ z u) (h:(zR (Uo f [x,y]) κ.st).leads (d,zx)) :
  ∃ r,(g v u).run P κ.w=.ok r κ.w/\zx=κ.st/\∀ d',d=some d'->RD κ d' r:=by
 unfold Uo at h
 simp only at h
 split at h
 ·rename_i k a k' b hk HL
  have:=uG hk hx
  subst this
  have:=uG HL hy
  subst this
  cases he:decide (k=k')with
  | false=>rw[he]at h; exact absurd h zh
  | true =>
   rw[he,cond_true,mq]at h
   obtain⟨rfl,rfl⟩:=h
   exact⟨_,hg k k' a b,rfl,λd' he=>by cases he; exact RD.int⟩
 ·exact absurd h zh
theorem H7{x:Option D}{i:Nat}{v:Value}{d:Option D}{zx:St}(hI:Inv κ)(hx:∀ z,x=some z->RD κ z v)
  (h:(zR (XI x i) κ.st).leads (d,zx)):qH c.P (do Pure.pure (.value (<- Instr.extract v i))) κ d zx:=by
 unfold XI at h
 split at h
 ·rename_i vs
  obtain⟨y,hy,rfl,rfl⟩:=Ug h
  cases hx _ rfl with
  | gz _ us hl hh =>
   obtain⟨u,h1,h2⟩:=qM.get (⟨hl,hh⟩:qM κ vs us) hy
   exact qH.pure hI (by simp[Instr.extract,h1]) h2
 ·exact absurd h zh
theorem dW:∀ {l:List (Option D)} {ds:List D},uY l=some ds->l=ds.map some
 | [],ds,h=>by simp[uY]at h; subst h; rfl
 | some d::r,ds,h=>by
  simp only[uY]at h
  split at h
  ·rename_i l hl; cases h; simp[dW hl]
  ·cases h
 | none::r,ds,h=>by simp[uY]at h
theorem gM{l:List (Option D)}{ds:List D}{vs:List Value}(h:uY l=some ds)(hl:l.length=vs.length)
  (hr:∀ (i:Nat) (d:D) (v:Value),l[i]? = some (some d)->vs[i]? = some v->RD κ d v):qM κ ds vs:=by
 have:=dW h
 subst this
 refine⟨by grind,λi h1 h2=>hr i _ _ ?_ (List.getElem?_eq_getElem h2)⟩
 simp
end
end Go.AM
namespace Go.AM
namespace T
variable {α β γ:Type}
theorem cA{t:T α}{x y:α}(h:t.leads x)(k:t.leads y):x=y:=by
 induction t with
 | ret a=>exact h.symm.trans k
 | ite b p q ip iq =>
  rcases h with⟨h1,h⟩ | ⟨h1,h⟩<;>rcases k with⟨k1,k⟩ | ⟨k1,k⟩
  ·grind
  ·grind
  ·grind
  ·grind
 | zy p t ih=>exact ih h.2 k.2
 | fail=>exact h.elim
theorem ze{t:T α}{f:α->T β}{x:β}:(t.bind f).leads x↔∃ a,t.leads a/\(f a).leads x:=by
 induction t with
 | ret a=>exact⟨λh=>⟨a,rfl,h⟩,λ⟨b,h,k⟩=>by cases h; exact k⟩
 | ite b p q ip iq =>
  constructor
  ·rintro(⟨h1,h⟩ | ⟨h1,h⟩)
   ·obtain⟨a,k1,k2⟩:=ip.1 h; exact⟨a,.inl ⟨h1,k1⟩,k2⟩
   ·obtain⟨a,k1,k2⟩:=iq.1 h; exact⟨a,.inr ⟨h1,k1⟩,k2⟩
  ·rintro⟨a,⟨h1,k1⟩ | ⟨h1,k1⟩,k2⟩
   ·exact .inl ⟨h1,ip.2 ⟨a,k1,k2⟩⟩
   ·exact .inr ⟨h1,iq.2 ⟨a,k1,k2⟩⟩
 | zy p t ih =>
  constructor
  ·rintro⟨h1,h⟩; obtain⟨a,k1,k2⟩:=ih.1 h; exact⟨a,⟨h1,k1⟩,k2⟩
  ·rintro⟨a,⟨h1,k1⟩,k2⟩; exact⟨h1,ih.2 ⟨a,k1,k2⟩⟩
 | fail=>exact⟨λh=>h.elim,λ⟨_,h,_⟩=>h.elim⟩
open Classical in
noncomputable def run:T α->Option α
 | ret a=>some a
 | ite b t e=>bif b then t.run else e.run
 | zy p t=>if p then t.run else none
 | fail=>none
@[simp] theorem z7(a:α):(ret a).run=some a:=rfl
@[simp] theorem z9M:(fail:T α).run=none:=rfl
theorem run_ite(b:Bool)(t e:T α):(ite b t e).run=if b=true then t.run else e.run:=by cases b<;>rfl
@[simp] theorem zk(t e:T α):(ite true t e).run=t.run:=rfl
@[simp] theorem zf(t e:T α):(ite false t e).run=e.run:=rfl
theorem zb{p:Prop}(h:p)(t:T α):(zy p t).run=t.run:=by simp only[run,if_pos h]
theorem za{b:Bool}(h:b=true)(t e:T α):(ite b t e).run=t.run:=by rw[h]; rfl
theorem z8{b:Bool}(h:b=false)(t e:T α):(ite b t e).run=e.run:=by rw[h]; rfl
theorem wV{t:T α}{x:α}:t.run=some x↔t.leads x:=by
 induction t with
 | ret a=>simp[leads]
 | ite b p q ip iq=>cases b<;>simp[leads,ip,iq]
 | zy p t ih=>by_cases h:p<;>simp[run,leads,ih]
 | fail=>simp[leads]
theorem run_bind(t:T α)(f:α->T β):(t.bind f).run=t.run.bind λa=>(f a).run:=by
 induction t with
 | ret a=>rfl
 | ite b p q ip iq=>cases b<;>simp[bind,ip,iq]
 | zy p t ih=>by_cases h:p<;>simp[run,bind,h,ih]
 | fail=>rfl
theorem z6{t:T α}{a:α}(h:t.run=some a)(f:α->T β):(t.bind f).run=(f a).run:=by rw[run_bind,h]; rfl
section loop
variable {σ ρ:Type} (r:σ->T (σ⊕ρ))
inductive Iter:Nat->σ->ρ->Prop
 | done {s:σ} {x:ρ} (h:(r s).leads (.inr x)):Iter 0 s x
 | step {n:Nat} {s s':σ} {x:ρ} (h:(r s).leads (.inl s')) (k:Iter n s' x):Iter (n+1) s x
theorem Iter.det{r:σ->T (σ⊕ρ)}{n m:Nat}{s:σ}{x y:ρ}(h:Iter r n s x)(k:Iter r m s y):x=y:=by
 induction h generalizing m y with
 | done h =>
  cases k with
  | done k=>have:=cA h k; cases this; rfl
  | step k _=>have:=cA h k; cases this
 | step h _ ih =>
  cases k with
  | done k=>have:=cA h k; cases this
  | step k k2=>have:=cA h k; cases this; exact ih k2
open Classical in
noncomputable def loop (s:σ):T ρ:=if h:∃ x n,Iter r n s x then .ret h.choose else .fail
theorem fc{s:σ}{x:ρ}:(loop r s).leads x↔∃ n,Iter r n s x:=by
 unfold loop
 split
 ·rename_i h
  obtain⟨n,hn⟩:=h.choose_spec
  constructor
  ·intro hx; cases hx; exact⟨n,hn⟩
  ·rintro⟨m,hm⟩; exact hn.det hm
 ·rename_i h
  exact⟨λk=>k.elim,λ⟨n,hn⟩=>h ⟨x,n,hn⟩⟩
theorem wN{r:σ->T (σ⊕ρ)}(I:σ->Prop)(μ:σ->Nat)(f:σ->ρ)
  (h:∀ s,I s->(∃ s',(r s).run=some (.inl s')/\I s'/\μ s'<μ s/\f s'=f s)\/(r s).run=some (.inr (f s))) {s:σ} (hs:I s):(loop r s).run=some (f s):=by
 rw[wV,fc]
 generalize hm:μ s=m
 induction m using Nat.strongRecOn generalizing s with
 | _ m ih =>
  rcases h s hs with⟨s',h1,h2,h3,h4⟩ | h1
  ·obtain⟨n,hn⟩:=ih (μ s') (by omega) h2 rfl
   exact⟨n+1,.step (wV.1 h1) (h4▸hn)⟩
  ·exact⟨0,.done (wV.1 h1)⟩
theorem qu{r:σ->T (σ⊕ρ)}{s s':σ}(h:(r s).run=some (.inl s')):(loop r s).run=(loop r s').run:=by
 have h':=wV.1 h
 apply Option.ext
 intro x
 show(loop r s).run=some x↔(loop r s').run=some x
 rw[wV,wV,fc,fc]
 constructor
 ·rintro⟨n,hn⟩
  cases hn with
  | done k=>have:=cA h' k; cases this
  | step k k2=>have:=cA h' k; cases this; exact⟨_,k2⟩
 ·rintro⟨n,hn⟩; exact⟨n+1,.step h' hn⟩
theorem zL{r:σ->T (σ⊕ρ)}{s:σ}{x:ρ}(h:(r s).run=some (.inr x)):(loop r s).run=some x:=by
 rw[wV,fc]; exact⟨0,.done (wV.1 h)⟩
end loop
section fix
variable {σ ρ:Type} (b:(σ->T ρ)->σ->T ρ)
def DU:Nat->σ->T ρ
 | 0,_=>.fail
 | n+1,x=>b (DU n) x
open Classical in
noncomputable def fix (x:σ):T ρ:=if h:∃ y n,∀ m,n<=m->(DU b m x).leads y then .ret h.choose else .fail
theorem mn{x:σ}{y:ρ}:(fix b x).leads y↔∃ n,∀ m,n<=m->(DU b m x).leads y:=by
 unfold fix
 split
 ·rename_i h
  obtain⟨n,hn⟩:=h.choose_spec
  constructor
  ·intro hx; cases hx; exact⟨n,hn⟩
  ·rintro⟨k,hk⟩; exact cA (hn (max n k) (by omega)) (hk (max n k) (by omega))
 ·rename_i h
  exact⟨λk=>k.elim,λ⟨n,hn⟩=>h ⟨y,n,hn⟩⟩
theorem nC{b:(σ->T ρ)->σ->T ρ}(I:σ->Prop)(μ:σ->Nat)(f:σ->ρ)
  (h:∀ x,I x->∀ g:σ->T ρ,(∀ y,I y->μ y<μ x->(g y).run=some (f y))->(b g x).run=some (f x)) {x:σ} (hx:I x):(fix b x).run=some (f x):=by
 rw[wV,mn]
 refine⟨μ x+1,λm hm => ?_⟩
 induction m generalizing x with
 | zero=>omega
 | succ m ih =>
  rw[<- wV]
  refine h x hx (DU b m) λy hy qD => ?_
  rw[wV]
  exact ih hy (by omega)
end fix
def Qm:T α->Option Prop
 | ret _=>none
 | ite b t e=>match t.Qm,e.Qm with
  | none,none=>none
  | some p,none=>some (b=true->p)
  | none,some q=>some (b=false->q)
  | some p,some q=>some ((b=true->p)/\(b=false->q))
 | zy p t=>match t.Qm with
  | none=>some p
  | some q=>some (p/\q)
 | fail=>some False
def val(d:α):T α->α
 | ret a=>a
 | ite b t e=>bif b then t.val d else e.val d
 | zy _ t=>t.val d
 | fail=>d
def flat(d:α)(t:T α):T α:=match t.Qm with
 | none=>.ret (t.val d)
 | some p=>.zy p (.ret (t.val d))
def Vn(t:T α):Prop:=match t.Qm with | none=>True | some p=>p
theorem UH(d:α)(t:T α)(x:α):t.leads x↔t.Vn/\t.val d=x:=by
 induction t with
 | ret a=>simp[leads,Vn,Qm,val]
 | ite b p q ip iq =>
  cases b
  ·simp only[leads,val,iq]
   unfold Vn
   simp only[Qm]
   grind
  ·simp only[leads,val,ip]
   unfold Vn
   simp only[Qm]
   grind
 | zy p t ih =>
  simp only[leads,ih,val]
  unfold Vn
  simp only[Qm]
  grind
 | fail=>simp[leads,Vn,Qm]
end T
abbrev zI(x:Int):Int:=IntKind.wrap .i64 x
abbrev zV(x:Int):Int:=IntKind.wrap .u64 x
abbrev xY(x:Int):Int:=IntKind.wrap .u32 x
abbrev Gd(x:Int):Int:=IntKind.wrap .u8 x
def xL(qJ off len n:Nat):Prop:=qJ=n/\off=0/\len=n
def q9(i:Int)(n:Nat):Prop:=0<=i/\i<(n:Int)
def mO(qJ kP idx n:Nat):Prop:=qJ=kP/\idx<n
def Yw(qJ kP off len n m bytes:Nat):Prop:=qJ=kP/\off=0/\len=n/\(n+m)*bytes<=140737488355328
def vj(l h:Int)(n:Nat):Prop:=0<=l/\l<=h/\h<=(n:Int)
def kA(l:zd):Nat->zd
 | 0=>[]
 | c+1=>l++kA l c
def UI(u:Nat):zd:=if h:u<10 then[UInt8.ofNat (48+u)]else UI (u / 10)++[UInt8.ofNat (48+u % 10)]
termination_by u
decreasing_by omega
def nV(n:Int):zd:=if n<0 then 45::UI n.natAbs else UI n.toNat
def dX:zd->zd->Int
 | [],sub=>if sub.isEmpty then 0 else -1
 | b::l,sub=>if sub.isPrefixOf (b::l)then 0 else if dX l sub == -1 then -1 else dX l sub+1
def ZL:zd->UInt8->Int
 | [],_ => -1
 | b::l,c=>if b==c then 0 else if ZL l c == -1 then -1 else ZL l c+1
def wT(s sep:zd):zd×zd×Bool:=if 0<=dX s sep then(s.take (dX s sep).toNat,s.drop ((dX s sep).toNat+sep.length),true)else(s,[],false)
def yU(s p:zd):zd:=if List.isPrefixOf p s=true then s.drop p.length else s
def dC(s:zd):den (dY .bool 256):=OT (e:=.bool) (λj=>s.contains (UInt8.ofNat j)) 256 0
def z5m(v v' o l n:Nat):Prop:=v=v'/\o+l<=n
def XT(n m:Int)(bytes:Nat):Prop:=0<=n/\n<=m/\m*bytes<=140737488355328/\m<=140737488355328
def nth{α:Type}(l:List α)(i:Int)(d:α):α:=List.getD l i.toNat d
def gA{α:Type}(l:List α)(i:Nat)(d:α):α:=List.getD l i d
def zt(s:zd)(i:Int):Int:=((List.getD s i.toNat 0).toNat:Int)
def Fc(k:IntKind)(x y:Int):Int:=rB k (· &&& ·) x y
def ZK(k:IntKind)(x y:Int):Int:=rB k (· ||| ·) x y
def F3(k:IntKind)(x y:Int):Int:=rB k (· ^^^ ·) x y
theorem xU{l h:Int}{n:Nat}:vj l h n↔0<=l/\l<=h/\h<=(n:Int):=by rfl
def z1H(l:List Int):T (zd×Unit):=.zy ((∀ n∈l,(0:Int)<=n/\n<256)/\List.length l<=140737488355328) (.ret (qO l,()))
end Go.AM
namespace Go.AM
def NX(b:UInt8):List zd->List zd
 | []=>[[b]]
 | x::y=>(b::x)::y
def ju(c:UInt8):zd->List zd
 | []=>[[]]
 | b::r=>if b=c then[]::ju c r else NX b (ju c r)
def xK(c:UInt8):zd->zd->List zd
 | cur,[]=>if cur=[]then[]else[cur]
 | cur,b::r=>if b=c then(if cur=[]then xK c [] r else cur::xK c [] r)else xK c (cur++[b]) r
def bJ:zd->zd->Int
 | [],_ => -1
 | b::l,chars=>if chars.contains b then 0 else if bJ l chars == -1 then -1 else bJ l chars+1
abbrev oI{A R:Type}(i:Int)(l:List A)(t:T R):T R:=.zy (q9 i l.length) t
abbrev oE{A R:Type}(l:List A)(t:T R):T R:=.zy (l.length=l.length) t
abbrev oC{A R:Type}(l:List A)(t:T R):T R:=.zy (xL l.length 0 l.length l.length) t
abbrev oM{R:Type}(a b:Nat)(t:T R):T R:=.zy (xL a 0 a b) (.zy (a=b) t)
abbrev oA{A R:Type}(l:List A)(k:Nat)(t:T R):T R:=.zy (Yw l.length l.length 0 l.length l.length 1 k) t
abbrev oK{R:Type}(a b:zd)(t:T R):T R:=.zy (a.length+b.length<=4611686018427387904) t
abbrev oZ{R:Type}(t:T R):T R:=.zy (xL 0 0 0 0) (.zy ((0:Nat)=0) t)
abbrev oV{A B C D E F R:Type}(a:List A)(b:List B)(c:List C)(d:List D)(e:List E)(f:List F)(t:T R):T R:=oC a (oC b (oC c (oC d (oC e (oC f t)))))
abbrev oW{A B C D E F R:Type}(a:List A)(b:List B)(c:List C)(d:List D)(e:List E)(f:List F)(t:T R):T R:=oE a (oE b (oE c (oE d (oE e (oE f t)))))
abbrev oY{A B C D E F R:Type}(a:List A)(b:List B)(c:List C)(d:List D)(e:List E)(f:List F)(t:T R):T R:=oV a b c d e f (oW a b c d e f t)
end Go.AM
namespace Go.AM
namespace T
variable {α β:Type}
attribute [simp] run_bind
@[simp] theorem yD(b:Bool)(t e:T α):(ite b t e).run=if b=true then t.run else e.run:=run_ite b t e
@[simp] theorem qz{i:Int}{n:Nat}(t:T α)(h1:0<=i)(h2:i<(n:Int)):(zy (q9 i n) t).run=t.run:=zb ⟨h1,h2⟩ t
@[simp] theorem kt{v v' i n:Nat}(t:T α)(h1:v=v')(h2:i<n):(zy (mO v v' i n) t).run=t.run:=zb ⟨h1,h2⟩ t
@[simp] theorem k8{v v' o l n m b:Nat}(t:T α)(h1:v=v')(h2:o=0)(h3:l=n)(h4:(n+m)*b<=140737488355328):(zy (Yw v v' o l n m b) t).run=t.run:=zb ⟨h1,h2,h3,h4⟩ t
@[simp] theorem q8{v o l n:Nat}(t:T α)(h1:v=n)(h2:o=0)(h3:l=n):(zy (xL v o l n) t).run=t.run:=zb ⟨h1,h2,h3⟩ t
@[simp] theorem yp{l h:Int}{n:Nat}(t:T α)(h1:0<=l)(h2:l<=h)(h3:h<=(n:Int)):(zy (vj l h n) t).run=t.run:=zb ⟨h1,h2,h3⟩ t
@[simp] theorem run_mk{n m:Int}{b:Nat}(t:T α)(h1:0<=n)(h2:n<=m)(h3:m*b<=140737488355328)(h4:m<=140737488355328):(zy (XT n m b) t).run=t.run:=zb ⟨h1,h2,h3,h4⟩ t
@[simp] theorem z3X{v v' o l n:Nat}(t:T α)(h1:v=v')(h2:o+l<=n):(zy (z5m v v' o l n) t).run=t.run:=zb ⟨h1,h2⟩ t
@[simp] theorem vB{a b:Nat}(t:T α)(h:a=b):(zy (a=b) t).run=t.run:=zb h t
@[simp] theorem zr{a b:Nat}(t:T α)(h:a<=b):(zy (a<=b) t).run=t.run:=zb h t
@[simp] theorem jm{a b:Int}(t:T α)(h:a<=b):(zy (a<=b) t).run=t.run:=zb h t
@[simp] theorem vR{a b:Int}(t:T α)(h:a≠b):(zy (a≠b) t).run=t.run:=zb h t
@[simp] theorem zg4{A:Type}{i:Int}{l:List A}(t:T α)(h1:0<=i)(h2:i<(l.length:Int)):(oI i l t).run=t.run:=zb ⟨h1,h2⟩ t
@[simp] theorem zfy{A:Type}(l:List A)(t:T α):(oE l t).run=t.run:=zb rfl t
@[simp] theorem zeZ{A:Type}(l:List A)(t:T α):(oC l t).run=t.run:=zb ⟨rfl,rfl,rfl⟩ t
@[simp] theorem zhu{a b:Nat}(t:T α)(h:a=b):(oM a b t).run=t.run:=(zb ⟨h,rfl,h⟩ _).trans (zb h t)
@[simp] theorem zeY{A:Type}{l:List A}{k:Nat}(t:T α)(h:(l.length+1)*k<=140737488355328):(oA l k t).run=t.run:=zb ⟨rfl,rfl,rfl,h⟩ t
@[simp] theorem zh4{a b:zd}(t:T α)(h:a.length+b.length<=4611686018427387904):(oK a b t).run=t.run:=zb h t
@[simp] theorem zm(t:T α):(zy True t).run=t.run:=zb trivial t
end T
@[simp] theorem zA{x:Int}(h1 : -9223372036854775808<=x)(h2:x<=9223372036854775807):zI x=x:=IntWalk.i64_in x ⟨h1,h2⟩
@[simp] theorem Un{x:Int}(h1:0<=x)(h2:x<=255):Gd x=x:=IntWalk.u8_in x ⟨h1,h2⟩
@[simp] theorem sW{x:Int}(h1:0<=x)(h2:x<=4294967295):xY x=x:=IntWalk.u32_in x ⟨h1,h2⟩
@[simp] theorem qy{x:Int}(h1:0<=x)(h2:x<=18446744073709551615):zV x=x:=IntWalk.u64_in x ⟨h1,h2⟩
theorem lQ(x:Int):xY x=x % 4294967296:=IntKind.wrap_u32 x
theorem E4{α:Type}(l:List α)(d:α){i:Int}(h0:0<=i)(hi:i<(l.length:Int)):l.drop i.toNat=nth l i d::l.drop (i+1).toNat:=by
 unfold nth
 have qD:i.toNat<l.length:=by omega
 have e:(i+1).toNat=i.toNat+1:=by omega
 rw[e,List.drop_eq_getElem_cons qD]
 simp[List.getD_eq_getElem?_getD,qD]
theorem TT{α:Type}(l:List α){i:Int}(hi:¬ i<(l.length:Int)):l.drop i.toNat=[]:=List.drop_eq_nil_of_le (by omega)
namespace T
variable {σ ρ α β:Type}
theorem NC{r:σ->T (σ⊕ρ)}(l:List α)(d:α)(e:β->Int->σ)(I:β->List α->Prop)(f:List α->β->ρ)
  (step:∀ (b:β) (x:α) (xs:List α) (i:Int),0<=i->i<(l.length:Int)->nth l i d=x->I b (x::xs) ->
   (∃ b',(r (e b i)).run=some (.inl (e b' (i+1)))/\I b' xs/\f xs b'=f (x::xs) b)\/(r (e b i)).run=some (.inr (f (x::xs) b)))
  (done:∀ b,I b []->(r (e b (l.length:Int))).run=some (.inr (f [] b))) {b:β} (hI:I b l):(loop r (e b 0)).run=some (f l b):=by
 have key:∀ (xs:List α) (i:Nat) (b:β),l.drop i=xs->i<=l.length->I b xs->(loop r (e b (i:Int))).run=some (f xs b):=by
  intro xs
  induction xs with
  | nil =>
   intro i b hd hi hb
   have:i=l.length:=by have:=List.drop_eq_nil_iff.1 hd; omega
   subst this
   exact zL (done b hb)
  | cons x xs ih =>
   intro i b hd hi hb
   have qD:i<l.length:=by
    rcases Nat.lt_or_ge i l.length with h | h
    ·exact h
    ·rw[List.drop_eq_nil_of_le h]at hd; cases hd
   have yq:=E4 l d (i:=(i:Int)) (by omega) (by omega)
   have e1:((i:Int)+1).toNat=i+1:=by omega
   simp only[Int.toNat_natCast,e1]at yq
   rw[hd]at yq
   obtain⟨h1,h2⟩:=List.cons.inj yq
   rcases step b x xs i (by omega) (by omega) (by rw[h1]) hb with⟨b',g1,g2,g3⟩ | g1
   ·rw[qu g1,<- g3]
    have:=ih (i+1) b' h2.symm (by omega) g2
    simpa using this
   ·exact zL g1
 exact key l 0 b (by simp) (Nat.zero_le _) hI
end T
end Go.AM