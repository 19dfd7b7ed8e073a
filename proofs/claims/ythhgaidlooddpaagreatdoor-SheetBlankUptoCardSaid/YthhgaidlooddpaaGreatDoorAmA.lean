/-
  The abstract machine, part A: texts of our own, the same for each claim.
-/
import Derived.WalkKit
import Derived.Laws.StructEq
set_option linter.unusedVariables false
namespace Go.AM
theorem fk{a b c d:Prop}(h:a\/b)(f:a->c)(g:b->d):c\/d:=by grind
abbrev zd:=List UInt8
inductive Ty where
 | int (k:IntKind) | bool | str | sl (e:Ty) | nil | cons (a b:Ty) | expr
 deriving DecidableEq
inductive Expr where
 | mk (kind:Int) (num:Bool×List Int×List Int×Unit) (name:zd) (kids:List Expr)
def Expr.kind:Expr->Int | .mk k _ _ _=>k
def Expr.num:Expr->Bool×List Int×List Int×Unit | .mk _ n _ _=>n
def Expr.name:Expr->zd | .mk _ _ n _=>n
def Expr.kids:Expr->List Expr | .mk _ _ _ l=>l
@[reducible] def den:Ty->Type
 | .int _=>Int
 | .bool=>Bool
 | .str=>zd
 | .sl e=>List (den e)
 | .nil=>Unit
 | .cons a b=>den a×den b
 | .expr=>Expr
abbrev u32:Ty:=.int .u32
abbrev i64:Ty:=.int .i64
abbrev G0:Ty:=.cons .bool (.cons (.sl u32) (.cons (.sl u32) .nil))
abbrev Vg:Ty:=.cons i64 (.cons G0 (.cons .str (.cons (.sl .expr) .nil)))
def Expr.Tq(e:Expr):den Vg:=(e.kind,e.num,e.name,e.kids,())
def Expr.Ft(x:den Vg):Expr:=.mk x.1 x.2.1 x.2.2.1 x.2.2.2.1
def Ty.size:Ty->Nat
 | .int _ | .bool | .str | .sl _=>1
 | .nil=>0
 | .cons a b=>a.size+b.size
 | .expr=>6
def Ty.isAgg:Ty->Bool
 | .nil | .cons _ _ | .expr=>true
 | _=>false
def zn:(τ:Ty)->den τ
 | .int _=>(0:Int)
 | .bool=>false
 | .str=>([]:zd)
 | .sl e=>([]:List (den e))
 | .nil=>()
 | .cons a b=>(zn a,zn b)
 | .expr=>.mk 0 (false,[],[],()) [] []
inductive D where
 | zC (τ:Ty) (x:den τ)
 | tight (e:Ty) (l:List (den e)) (ne:Bool)
 | xH | yR | xj | uu | uv
 | ptr (b off:Nat)
 | xg (τ:Ty) (x:den τ)
 | uY (b qK:Nat) (e:Ty) (idx off:Nat)
 | ms (b qK:Nat) (e:Ty) (off len:Nat)
 | xl (f:Nat) (cap:List D)
 | agg (cs:List D)
 | gE (vs:List D)
 | iface (t:Nat) (d:D)
 | tP
 | yu (b T:Nat)
 | dx (T:Nat)
inductive yg where
 | dead
 | var (d:D)
 | arr (qK:Nat) (e:Ty) (xs:List (den e))
abbrev St:=List yg
inductive T(α:Type) where
 | ret (a:α)
 | ite (b:Bool) (t e:T α)
 | zx (p:Prop) (t:T α)
 | fail
namespace T
variable {α β:Type}
def bind:T α->(α->T β)->T β
 | ret a,k=>k a
 | ite b t e,k=>ite b (t.bind k) (e.bind k)
 | zx p t,k=>zx p (t.bind k)
 | fail,_=>fail
def YB:Option α->T α
 | some a=>ret a
 | none=>fail
def leads:T α->α->Prop
 | ret a,x=>a=x
 | ite b t e,x=>(b=true/\t.leads x)\/(b=false/\e.leads x)
 | zx p t,x=>p/\t.leads x
 | fail,_=>False
def wp(Q:α->Prop):T α->Prop
 | ret a=>Q a
 | ite b t e=>(b=true->t.wp Q)/\(b=false->e.wp Q)
 | zx p t=>p/\t.wp Q
 | fail=>False
end T
abbrev Fr:=List (Nat×Option D)
def Fr.get:Fr->Nat->Option D
 | [],_=>none
 | (t,d)::r,s=>bif Nat.beq t s then d else Fr.get r s
def Fr.put(fr:Fr)(dst:Option Nat)(d:Option D):Fr :=
 match dst with
 | some t=>(t,d)::fr
 | none=>fr
abbrev Kn:=List (Nat×Option Bool)
def Kn.get:Kn->Nat->Option Bool
 | [],_=>none
 | (t,b)::r,s=>bif Nat.beq t s then b else Kn.get r s
inductive Bv where
 | ret (ds:List D)
 | yk (d:D)
inductive XP where
 | rp (τ:Ty) | im (τ:Ty)
inductive ZP where
 | ty (τ:Ty) | rp (τ:Ty) | xl (f:Nat) (caps:List XP)
structure Sig where
 params:List ZP
 res:List Ty
structure Ctx where
 P:Program
 xid:Nat
 sig:Nat->List D->Option Sig
 fn:Nat->List D->St->T (Bv×St)
 ro:Nat->Bool
 /-- Blocks that a call leaves as they are. -/
 free:Nat->List D->St->List Nat
 Tc:∀ (g:Nat) (args:List D) (st:St) (rs:Bv) (zy:St) (b:Nat),(fn g args st).leads (rs,zy)->b∈free g args st->zy[b]? = st[b]?
inductive Ex where
 | normal | exit (id:Nat) | ret | yk (d:D)
class tw where
 u8:Nat
def z7W[tw](e:Ty)(t:Nat):Bool:=match e with
 | .int .u8=>Nat.beq t tw.u8
 | _=>true
def z4H[tw](e:Ty)(t:Nat):Prop:=e=.int .u8->t=tw.u8
section ops
variable (c:Ctx)
variable [tw]
def l8(t:Nat):Option Nat:=(c.P.info? t).map (·.size)
def mZ(t:Nat):Option Nat:=(c.P.info? t).map (·.bytes)
def Cz(t:Nat):Option Bool:=match c.P.underlying t with | some (.struct _) | some (.array _ _)=>some true | some _=>some false | none=>none
def dG:List (Option Ty)->Option Ty
 | []=>some .nil
 | some a::r=>match dG r with | some b=>some (.cons a b) | none=>none
 | none::_=>none
def Bf:Nat->Nat->Option Ty
 | 0,_=>none
 | n+1,t=>bif Nat.beq t c.xid then some .expr else
  match c.P.underlying t with
  | some (.int k)=>some (.int k)
  | some .bool=>some .bool
  | some .string=>some .str
  | some (.slice e)=>match Bf n e with | some a=>some (.sl a) | none=>none
  | some (.struct fs)=>dG (fs.toList.map λf=>Bf n f.type)
  | some (.array k e)=>dG (List.replicate k (Bf n e))
  | _=>none
def kY(t:Nat)(τ:Ty):Bool:=z7W τ t&&(match l8 c t with | some n=>Nat.beq n τ.size | none=>false)&&(match Cz c t with | some b=>b==τ.isAgg | none=>false)
def rL:Value->Option D
 | .int k n=>some (.zC (.int k) n)
 | .bool b=>some (.zC .bool b)
 | .string s=>some (.zC .str s.data.toList)
 | .slice none 0 0=>some .xH
 | .pointer none=>some .yR
 | .nilFunc=>some .uu
 | .nilIface=>some .xj
 | .map none=>some .uv
 | _=>none
def j5:List (Option D)->Option (List D)
 | []=>some []
 | some d::r=>match j5 r with | some l=>some (d::l) | none=>none
 | none::_=>none
def WG:Value->Option D
 | .agg cs=>match j5 (cs.toList.map rL)with | some l=>some (.agg l) | none=>none
 | v=>rL v
def flat:(τ:Ty)->den τ->List D
 | .int k,x=>[.zC (.int k) x]
 | .bool,x=>[.zC .bool x]
 | .str,x=>[.zC .str x]
 | .sl e,x=>[.zC (.sl e) x]
 | .nil,_=>[]
 | .cons a b,x=>flat a x.1++flat b x.2
 | .expr,x=>[.zC i64 x.kind,.zC .bool x.num.1,.zC (.sl u32) x.num.2.1,.zC (.sl u32) x.num.2.2.1,.zC .str x.name,.zC (.sl .expr) x.kids]
def qo:D->List D
 | .zC τ x=>flat τ x
 | .agg cs=>cs
 | .gE _=>[]
 | d=>[d]
def D.isAgg:D->Bool
 | .agg _=>true
 | _=>false
def D.dK:D->Bool
 | .zC τ _=>τ.isAgg
 | .agg _=>true
 | _=>false
def D.zbd:D->Bool
 | .zC τ _=>τ.isAgg
 | .agg _=>true
 | _=>false
def bQ:List D->Option Nat
 | .dx T::_=>some T
 | .yu _ T::_=>some T
 | _=>none
def D.typed:D->Option Nat
 | .agg l=>bQ l
 | _=>none
def nd(d d':D):Bool:=match d'.typed with
 | none=>true
 | some T=>match d.typed with | some T'=>Nat.beq T T' | none=>false
def D.jl:D->Bool
 | .gE _=>true
 | _=>false
def vT{a b:Ty}(x:den a):Option (den b):=if h:a=b then some (h▸x)else none
def ep(e:Ty):Nat->Ty
 | 0=>.nil
 | n+1=>.cons e (ep e n)
def BZ:Ty->Option (Ty×Nat)
 | .cons e r=>match r with
  | .nil=>some (e,1)
  | r=>match BZ r with
   | some (e',n)=>bif decide (e=e')then some (e,n+1)else none
   | none=>none
 | _=>none
def rT(e:Ty):(τ:Ty)->den τ->Nat->den e
 | .cons _ _,x,0=>match(vT x.1:Option (den e))with | some y=>y | none=>zn e
 | .cons _ b,x,i+1=>rT e b x.2 i
 | _,_,_=>zn e
def Oz{e:Ty}(f:Nat->den e):(n:Nat)->Nat->den (ep e n)
 | 0,_=>()
 | n+1,k=>(f k,Oz f n (k+1))
def eV(τ:Ty):D->Option (den τ)
 | .zC σ x=>vT x
 | .tight e l _=>vT (a:=.sl e) l
 | .xH=>match τ with | .sl e=>some ([]:List (den e)) | _=>none
 | _=>none
def jW:(τ:Ty)->List D->Option (den τ×List D)
 | .int k,d::r=>match eV (.int k) d with | some x=>some (x,r) | none=>none
 | .bool,d::r=>match eV .bool d with | some x=>some (x,r) | none=>none
 | .str,d::r=>match eV .str d with | some x=>some (x,r) | none=>none
 | .sl e,d::r=>match eV (.sl e) d with | some x=>some (x,r) | none=>none
 | .nil,r=>some ((),r)
 | .cons a b,r=>match jW a r with
  | some (x,r')=>match jW b r' with | some (y,r'')=>some ((x,y),r'') | none=>none
  | none=>none
 | .expr,[]=>none
 | .expr,d::r=>match eV i64 d with
  | none=>none
  | some k=>match r with
   | d1::d2::d3::d4::d5::r' =>
    match eV .bool d1,eV (.sl u32) d2,eV (.sl u32) d3,eV .str d4,eV (.sl .expr) d5 with
    | some a,some n,some m,some s,some l=>some (Expr.mk k (a,n,m,()) s l,r')
    | _,_,_,_,_=>none
   | _=>none
 | _,[]=>none
def iu(τ:Ty)(d:D):Option (den τ) :=
 match d with
 | .zC σ x=>vT x
 | d=>bif (d.isAgg==τ.isAgg) && !d.jl then match jW τ (qo d)with
   | some (x,[])=>some x
   | _=>none
  else none
def nY(st:St):D->T D
 | .ms b qK e off len=>match st[b]? with
  | some (.arr kG e' xs)=>if h:e'=e then .zx (qK=kG) (.ret (.zC (.sl e) (h▸((xs.take (off+len)).drop off:List (den e')))))else .fail
  | _=>.fail
 | d=>.ret d
def G9(st:St):List D->T (List D)
 | []=>.ret []
 | d::r=>(nY st d).bind λx=>(G9 st r).bind λl=>.ret (x::l)
def snap(st:St):D->T D
 | .agg cs=>(G9 st cs).bind λl=>.ret (.agg l)
 | d=>nY st d
def QC(st:St)(τ:Ty)(d:D):T (den τ):=(snap st d).bind λx=>.YB (iu τ x)
def Ym:D->Bool | .ms .. => true | _=>false
inductive cv where
 | val (t:T (Option D))
 | rd (k:St->T (Option D))
 | wr (k:St->T (Option D×St))
def val(d:D):cv:=.val (.ret (some d))
def z2V(d:Option D):cv:=match d with | some d=>.val (.ret (some d)) | none=>.val .fail
def bad:cv:=.val .fail
def z5q(t:Nat):Bool:=match c.P.underlying t with
 | some (.struct fs)=>match fs[0]? with
  | some fd=>match c.P.underlying fd.type with | some (.pointer e)=>Nat.beq e t | _=>false
  | none=>false
 | _=>false
def S2(t:Nat)(d:D):D:=match d with
 | .agg (.yR::r)=>bif z5q c t then .agg (.dx t::r)else .agg (.yR::r)
 | d=>d
def WY(t:Nat):Option D:=match c.P.info? t with
 | some i=>match i.zero with | some z=>(match WG z with | some d=>some (S2 c t d) | none=>none) | none=>none
 | none=>none
def Yo(l:List D)(off n:Nat):Option (List D) :=
 bif Nat.ble (off+n) l.length then some ((l.drop off).take n)else none
def EJ(t:Nat)(d:D)(off:Nat):Option D :=
 match Cz c t with
 | some true=>match l8 c t with
  | none=>none
  | some n=>bif (Nat.beq off 0)&&Nat.beq n (qo d).length&&d.zbd then some d
   else match Yo (qo d) off n with | some l=>some (.agg l) | none=>none
 | some false=>(qo d)[off]?
 | none=>none
def Dm(t:Nat)(d:D)(off:Nat)(x:D):Option D :=
 match l8 c t with
 | none=>none
 | some n=>bif Nat.blt 0 n&&Nat.beq n (qo x).length&&Nat.ble (off+n) (qo d).length then
   bif Nat.beq n (qo d).length then some x
   else some (.agg ((qo d).take off++qo x++(qo d).drop (off+n)))
  else none
def JU(t:Nat)(a:Option D):cv:=match a with
 | some (.xg τ x)=>bif kY c t τ then val (.zC τ x)else bad
 | some (.ptr b off)=>.rd λst=>match st[b]? with
  | some (.var d)=>match EJ c t d off with | some r=>.ret (some r) | none=>.fail
  | _=>.fail
 | some (.uY b qK e idx off)=>.rd λst=>match st[b]? with
  | some (.arr kG e' xs)=>bif decide (e'=e)then
    .zx (qK=kG/\idx<xs.length) (match EJ c t (.zC e' (xs.getD idx (zn e'))) off with | some r=>.ret (some r) | none=>.fail)
   else .fail
  | _=>.fail
 | _=>bad
def VD(t:Nat)(a:Option D)(v:Option D):cv:=match a,v with
 | some (.ptr b off),some x=>.wr λst=>match st[b]? with
  | some (.var d)=>match Dm c t d off x with | some r=>bif nd d r then .ret (none,st.set b (.var r))else .fail | none=>.fail
  | _=>.fail
 | some (.uY b qK e idx off),some x=>.wr λst=>match st[b]? with
  | some (.arr kG e' xs)=>bif decide (e'=e)then
    .zx (qK=kG/\idx<xs.length) (match Dm c t (.zC e' (xs.getD idx (zn e'))) off x with
     | some r=>match iu e' r with | some y=>.ret (none,st.set b (.arr kG e' (xs.set idx y))) | none=>.fail
     | none=>.fail)
   else .fail
  | _=>.fail
 | _,_=>bad
def rq:(τ:Ty)->den τ->Nat->Option (D×Nat×Nat)
 | .cons a _,x,0=>some (.xg a x.1,0,a.size)
 | .cons a b,x,n+1=>match rq b x.2 n with | some (d,o,s)=>some (d,a.size+o,s) | none=>none
 | .expr,x,0=>some (.xg i64 x.kind,0,1)
 | .expr,x,1=>some (.xg G0 x.num,1,3)
 | .expr,x,2=>some (.xg .str x.name,4,1)
 | .expr,x,3=>some (.xg (.sl .expr) x.kids,5,1)
 | _,_,_=>none
def VW(s f:Nat):Option (Nat×Nat):=match c.P.underlying s with
 | some (.struct fs)=>match fs[f]? with
  | some fd=>match l8 c fd.type with | some n=>bif Nat.beq n 0 then none else some (fd.offset,n) | none=>none
  | none=>none
 | _=>none
def pN(s f:Nat)(a:Option D):cv:=match VW c s f with
 | none=>bad
 | some (o,n)=>match a with
  | some (.xg τ x)=>match rq τ x f with
   | some (d,o',n')=>bif Nat.beq o o'&&Nat.beq n n' then val d else bad
   | none=>bad
  | some (.ptr b off)=>val (.ptr b (off+o))
  | some (.uY b qK e idx off)=>val (.uY b qK e idx (off+o))
  | _=>bad
def HF(s f:Nat)(a:Option D):cv:=match c.P.underlying s with
 | some (.struct fs)=>match fs[f]? with
  | some fd=>match a with
   | some d=>z2V (bif d.dK then EJ c fd.type d fd.offset else none)
   | none=>bad
  | none=>bad
 | _=>bad
def asInt:Option D->Option (IntKind×Int)
 | some (.zC (.int k) n)=>some (k,n)
 | _=>none
def JT:Option D->Option zd
 | some (.zC .str s)=>some s
 | _=>none
def asBool:Option D->Option Bool
 | some (.zC .bool b)=>some b
 | _=>none
def iC(t:Nat):Option Nat:=match c.P.underlying t with | some (.slice e)=>some e | _=>none
def z7c(t:Nat):Option (Nat×Nat):=match c.P.underlying t with | some (.array n e)=>some (n,e) | _=>none
def Jr(t:Nat)(x:Option D)(i:Int):cv:=match z7c c t,x with
 | some (n,et),some (.xg τ y)=>match BZ τ with
  | some (e,m)=>bif kY c et e&&Nat.beq n m then .val (.zx (0<=i/\i<(n:Int)) (.ret (some (.xg e (rT e τ y i.toNat)))))else bad
  | none=>bad
 | _,_=>bad
def oH(t:Nat)(x i:Option D):cv:=match iC c t,asInt i with
 | none,some (_,i)=>Jr c t x i
 | some et,some (_,i)=>match x with
  | some (.zC (.sl e) l)=>bif kY c et e then .val (.zx (0<=i/\i<(List.length l:Int)) (.ret (some (.xg e (List.getD l i.toNat (zn e))))))else bad
  | some (.tight e l _)=>bif kY c et e then .val (.zx (0<=i/\i<(List.length l:Int)) (.ret (some (.xg e (List.getD l i.toNat (zn e))))))else bad
  | some (.ms b qK e off len)=>bif kY c et e then .val (.zx (0<=i/\i<(len:Int)) (.ret (some (.uY b qK e (off+i.toNat) 0))))else bad
  | _=>bad
 | _,_=>bad
def GQ(t:Nat)(x i:Option D):cv:=match asInt i,JT x,c.P.underlying t with
 | some (_,i),some s,some .string=>.val (.zx (0<=i/\i<(List.length s:Int)) (.ret (some (.zC (.int .u8) ((List.getD s i.toNat 0).toNat:Int)))))
 | _,_,_=>bad
def Oa(d:Int):Option (Option D)->Option Int
 | none=>some d
 | some x=>match asInt x with | some (_,i)=>some i | none=>none
def qz(l h:Int)(s:zd):zd:=(s.take h.toNat).drop l.toNat
def wk{e:Ty}(l h:Int)(s:List (den e)):List (den e):=(s.take h.toNat).drop l.toNat
def HQ(t:Nat)(x:Option D)(lo hi mx:Option (Option D)):cv:=match x with
 | some (.zC .str s)=>match c.P.underlying t,mx,Oa 0 lo,Oa (List.length s) hi with
  | some .string,none,some l,some h=>.val (.zx (0<=l/\l<=h/\h<=(List.length s:Int)) (.ret (some (.zC .str (qz l h s)))))
  | _,_,_,_=>bad
 | some (.zC (.sl e) s)=>match iC c t,Oa 0 lo,Oa (List.length s) hi with
  | some et,some l,some h=>bif kY c et e then match mx with
    | none=>.val (.zx (0<=l/\l<=h/\h<=(List.length s:Int)) (.ret (some (.zC (.sl e) (wk l h s)))))
    | some m=>match asInt m with
     | some (_,m)=>bif hi.isSome then .val (.zx (0<=l/\l<=h/\h=m/\h<=(List.length s:Int)) (.ret (some (.tight e (wk l h s) false))))else bad
     | none=>bad
   else bad
  | _,_,_=>bad
 | some (.tight e s _)=>match iC c t,mx,Oa 0 lo,Oa (List.length s) hi with
  | some et,none,some l,some h=>bif kY c et e then .val (.zx (0<=l/\l<=h/\h<=(List.length s:Int)) (.ret (some (.zC (.sl e) (wk l h s)))))else bad
  | _,_,_,_=>bad
 | some (.ms b qK e off len)=>match iC c t,mx,Oa 0 lo,Oa len hi with
  | some et,none,some l,some h=>bif kY c et e then .val (.zx (0<=l/\l<=h/\h<=(len:Int)) (.ret (some (.ms b qK e (off+l.toNat) (h.toNat-l.toNat)))))else bad
  | _,_,_,_=>bad
 | _=>bad
def ib(k:IntKind)(n:Int):cv:=val (.zC (.int k) n)
def bb(b:Bool):cv:=val (.zC .bool b)
def rU(k:IntKind)(f:BitVec k.bits->BitVec k.bits->BitVec k.bits)(x y:Int):Int:=k.wrap (f (BitVec.ofInt k.bits x) (BitVec.ofInt k.bits y)).toNat
def gB(k:IntKind)(a b:Int):Int:=k.wrap (a*2 ^ (min b.toNat k.bits))
def vj(k:IntKind)(a b:Int):Int:=Int.fdiv a (2 ^ (min b.toNat k.bits))
def I9(op:BinOp)(k:IntKind)(a b:Int):cv:=match op with
 | .add=>ib k (k.wrap (a+b))
 | .sub=>ib k (k.wrap (a-b))
 | .mul=>ib k (k.wrap (a*b))
 | .quo=>.val (.zx (b≠0) (.ret (some (.zC (.int k) (k.wrap (a.tdiv b))))))
 | .rem=>.val (.zx (b≠0) (.ret (some (.zC (.int k) (a.tmod b)))))
 | .and=>ib k (rU k (· &&& ·) a b)
 | .or=>ib k (rU k (· ||| ·) a b)
 | .xor=>ib k (rU k (· ^^^ ·) a b)
 | .eql=>bb (a==b)
 | .neq=>bb (a != b)
 | .lss=>bb (decide (a<b))
 | .leq=>bb (decide (a<=b))
 | .gtr=>bb (decide (b<a))
 | .geq=>bb (decide (b<=a))
 | _=>bad
def zi(a b:zd):Bool:=a==b
def strLt(a b:zd):Bool:=Op.bytesLess a b
def cat(a b:zd):zd:=a++b
def FG(op:BinOp)(a b:zd):cv:=match op with
 | .add=>.val (.zx (a.length+b.length<=4611686018427387904) (.ret (some (.zC .str (cat a b)))))
 | .eql=>bb (zi a b)
 | .neq=>bb (!zi a b)
 | .lss=>bb (strLt a b)
 | .leq=>bb (strLt a b||zi a b)
 | .gtr=>bb (!(strLt a b||zi a b))
 | .geq=>bb (!strLt a b)
 | _=>bad
def Ru(op:BinOp)(a b:Bool):cv:=match op with
 | .eql=>bb (a==b)
 | .neq=>bb (!(a==b))
 | _=>bad
def VO:BinOp->Bool
 | .shl | .shr=>true
 | _=>false
def z1j(a:Ty)(t:Nat):Bool:=match a,c.P.underlying t with
 | .int k,some (.int k')=>decide (k=k')
 | .bool,some .bool=>true
 | .str,some .string=>true
 | _,_=>false
def QB:Ty->Nat->List Field->Bool
 | .nil,_,[]=>true
 | .cons a r,off,f::fs=>decide (f.name ≠ "_")&&(Nat.beq f.offset off&&(z1j c a f.type&&QB r (off+1) fs))
 | _,_,_=>false
def eqT:(τ:Ty)->den τ->den τ->Bool
 | .int _,(a:Int),(b:Int)=>a==b
 | .bool,(a:Bool),(b:Bool)=>a==b
 | .str,(a:zd),(b:zd)=>zi a b
 | .cons a r,(x:den a×den r),(y:den a×den r)=>eqT a x.1 y.1&&eqT r x.2 y.2
 | _,_,_=>true
def Kd(τ:Ty)(t:Nat):Bool:=match c.P.underlying t with
 | some (.struct fs)=>QB c τ 0 fs.toList&&(!(c.P.stoodInHeld t) && !(c.P.eqGuardType c.P.depth t))
 | _=>false
def z0j(op:BinOp)(t:Nat)(x y:Option D):cv:=match x,y with
 | some (.zC τ a),some (.zC σ b)=>match(vT b:Option (den τ))with
  | some b=>bif τ.isAgg&&Kd c τ t then(match op with
   | .eql=>bb (eqT τ a b)
   | .neq=>bb (!eqT τ a b)
   | _=>bad)else bad
  | none=>bad
 | _,_=>bad
def FL(op:BinOp)(t:Nat)(x y:Option D):cv:=match asInt x,asInt y with
 | some (k,a),some (k',b)=>match op with
  | .shl=>.val (.zx (0<=b) (.ret (some (.zC (.int k) (gB k a b)))))
  | .shr=>.val (.zx (0<=b) (.ret (some (.zC (.int k) (vj k a b)))))
  | op=>bif decide (k=k')then I9 op k a b else bad
 | _,_=>match JT x,JT y with
  | some a,some b=>bif VO op then bad else FG op a b
  | _,_=>match c.P.underlying t,asBool x,asBool y with
   | some .bool,some a,some b=>Ru op a b
   | _,_,_=>z0j c op t x y
def HD(op:BinOp)(t:Nat)(x:Option D):cv:=match c.P.underlying t with
 | some (.interface _)=>match op,x with
  | .eql,some .xj=>bb true
  | .eql,some (.iface _ _)=>bb false
  | .neq,some .xj=>bb false
  | .neq,some (.iface _ _)=>bb true
  | _,_=>bad
 | _=>bad
def nD(x:Option D)(at':Nat)(ok:Bool):cv:=match c.P.underlying at' with
 | some (.interface _)=>bad
 | none=>bad
 | some _=>match x with
  | some (.iface t d)=>bif Nat.beq t at'&&ok then val (.gE [d,.zC .bool true])else bad
  | _=>bad
def FR(op:BinOp)(t:Nat)(p:Operand)(x y:Option D):cv:=match p with
 | .const .nilIface=>HD c op t x
 | _=>FL c op t x y
def S3(op:UnOp)(x:Option D):cv:=match op with
 | .neg=>match asInt x with | some (k,n)=>ib k (k.wrap (0-n)) | none=>bad
 | .not=>match asBool x with | some b=>bb (!b) | none=>bad
 | .xor=>match asInt x with | some (k,n)=>ib k (rU k (· ^^^ ·) (if k.signed then -1 else k.max) n) | none=>bad
 | _=>bad
def byteOf(n:Int):UInt8:=UInt8.ofNat n.toNat
def CB(e:Ty):D->Option (List (den e))
 | .zC σ y=>vT (a:=σ) (b:=.sl e) y
 | .tight e' y _=>vT (a:=.sl e') (b:=.sl e) y
 | .xH=>some []
 | _=>none
def qQ(l:List Int):zd:=l.map byteOf
def XS(e:Nat)(x:Option D):cv:=match c.P.underlying e,x with
 | some (.int .u8),some d=>.rd λst=>(nY st d).bind λy=>match CB (.int .u8) y with
  | some l=>.ret (some (.zC .str (qQ l)))
  | none=>.fail
 | _,_=>bad
def convertOp(s t:Nat)(x:Option D):cv:=match c.P.underlying s,c.P.underlying t with
 | some (.slice e),some .string=>XS c e x
 | some (.int _),some (.int k)=>match asInt x with | some (_,n)=>ib k (k.wrap n) | none=>bad
 | some .string,some .string=>match JT x with | some s=>val (.zC .str s) | none=>bad
 | _,_=>bad
def z0q(t:Nat)(x:Option D):cv:=match c.P.underlying t with
 | some (.slice _)=>match x with
  | some (.zC (.sl _) l)=>ib .i64 (List.length l)
  | some (.tight _ l _)=>ib .i64 (List.length l)
  | some .xH=>ib .i64 0
  | some (.ms _ _ _ _ len)=>ib .i64 (len:Nat)
  | _=>bad
 | some .string=>match JT x with
  | some s=>ib .i64 (List.length s)
  | none=>bad
 | _=>bad
def ex(e:Ty){e':Ty}(xs:List (den e')):Option (List (den e)):=vT (a:=.sl e') (b:=.sl e) xs
def mF(e:Ty)(l ys:List (den e))(bytes:Nat)(st:St):T (Option D×St) :=
 .zx ((l.length+ys.length)*bytes<=140737488355328) (.ret (some (.ms st.length (l.length+ys.length) e 0 (l.length+ys.length)),st++[.arr (l.length+ys.length) e (l++ys)]))
def ko(e:Ty)(s:D)(ys:List (den e))(ne:Bool)(bytes:Nat)(st:St):T (Option D×St):=match s with
 | .xH=>bif ne then mF e [] ys bytes st else .ite ys.isEmpty (.ret (some s,st)) (mF e [] ys bytes st)
 | .tight e' l _=>match ex e l with
  | some l=>bif ne then mF e l ys bytes st else .ite ys.isEmpty (.ret (some s,st)) (mF e l ys bytes st)
  | none=>.fail
 | .ms b qK e' off len=>match st[b]? with
  | some (.arr kG e'' xs)=>match ex e xs with
   | some xs=>bif decide (e'=e)then .zx (qK=kG/\off=0/\len=xs.length/\(xs.length+ys.length)*bytes<=140737488355328)
     (.ret (some (.ms b (qK+ys.length) e 0 (len+ys.length)),st.set b (.arr (qK+ys.length) e (xs++ys))))else .fail
   | none=>.fail
  | _=>.fail
 | _=>.fail
def zeroOf(et:Nat)(e:Ty):Option (den e):=match WY c et with | some z=>iu e z | none=>none
def X1(t:Nat)(s x:Option D):cv:=match iC c t with
 | none=>bad
 | some et=>match Bf c 20 et,mZ c et with
  | some e,some bytes=>bif kY c et e&&Nat.blt 0 e.size&&Nat.blt 0 bytes&&(zeroOf c et e).isSome then match s,x with
    | some s,some x=>.wr λst=>(nY st x).bind λx=>match x with
     | .zC _ y=>match(vT y:Option (den (.sl e)))with
      | some ys=>ko e s ys false bytes st
      | none=>.fail
     | .tight _ y ne=>match ex e y with
      | some ys=>ko e s ys ne bytes st
      | none=>.fail
     | .xH=>ko e s [] false bytes st
     | _=>.fail
    | _,_=>bad
   else bad
  | _,_=>bad
def bytesOf(s:zd):List Int:=s.map λb=>((b.toNat:Nat):Int)
def sI(t t':Nat)(s x:Option D):cv:=match iC c t with
 | none=>bad
 | some et=>match Bf c 20 et,mZ c et,c.P.underlying t' with
  | some (.int .u8),some bytes,some .string=>bif kY c et (.int .u8)&&Nat.blt 0 bytes&&(zeroOf c et (.int .u8)).isSome then match s,x with
    | some s,some (.zC .str l)=>.wr λst=>ko (.int .u8) s (bytesOf l) false bytes st
    | _,_=>bad
   else bad
  | _,_,_=>bad
def FH(t:Nat)(n m:Option D):cv:=match iC c t,asInt n,asInt m with
 | some et,some (_,n),some (_,m)=>match Bf c 20 et,mZ c et with
  | some e,some bytes=>match zeroOf c et e with
   | some z=>bif kY c et e&&Nat.blt 0 e.size then
     .wr λst=>.zx (0<=n/\n<=m/\m*bytes<=140737488355328/\m<=140737488355328) (.ret (some (.ms st.length n.toNat e 0 n.toNat),st++[.arr n.toNat e (List.replicate n.toNat z)]))
    else bad
   | none=>bad
  | _,_=>bad
 | _,_,_=>bad
def Yy(e:Ty):Nat->List (Nat×Option D)->Option (List (den e))
 | _,[]=>some []
 | i,(j,some d)::r=>bif Nat.beq i j then match iu e d,Yy e (i+1) r with
   | some x,some l=>some (x::l)
   | _,_=>none
  else none
 | _,_=>none
def mR(t n:Nat)(ps:List (Nat×Option D)):cv:=match iC c t with
 | none=>bad
 | some et=>match Bf c 20 et with
  | some e=>bif kY c et e&&Nat.beq n ps.length&&Nat.ble n 1000&&Nat.ble e.size 100&&(zeroOf c et e).isSome then match Yy e 0 ps with
    | some l=>bif Nat.beq n 0&&Nat.blt 0 e.size then .wr λst=>.ret (some (.ms st.length 0 e 0 0),st++[.arr 0 e []])else val (.tight e l (!Nat.beq n 0))
    | none=>bad
   else bad
  | none=>bad
def ig(places:List (Nat×Nat)):List (Nat×Option D)->List D->Option (List D)
 | [],cells=>some cells
 | (i,some d)::r,cells=>match places[i]? with
  | some (off,n)=>bif !d.jl&&Nat.beq n (qo d).length&&Nat.ble (off+n) cells.length then
     ig places r (cells.take off++qo d++cells.drop (off+n))else none
  | none=>none
 | _,_=>none
def Be(t:Nat)(ps:List (Nat×Option D)):cv:=match c.P.underlying t with
 | some (.struct fs)=>match WY c t,fs.toList.mapM (λf=>(c.P.info? f.type).map λi=>(f.offset,i.size))with
  | some (.agg z),some places=>match ig places ps z with
   | some l=>val (.agg l)
   | none=>bad
  | _,_=>bad
 | some (.array k e)=>match WY c t,c.P.info? e with
  | some (.agg z),some ie=>match ig ((List.range k).map λi=>(i*ie.size,ie.size)) ps z with
   | some l=>val (.agg l)
   | none=>bad
  | _,_=>bad
 | _=>bad
def XQ(x:Option D)(i:Nat):cv:=match x with
 | some (.gE vs)=>z2V vs[i]?
 | _=>bad
def yV:List D->D
 | [d]=>d
 | ds=>.gE ds
def Ty.scalar:Ty->Bool
 | .int _ | .bool | .str=>true
 | .cons a b=>a.scalar&&b.scalar
 | .nil=>true
 | _=>false
def ta:D->Bool
 | .zC τ _=>τ.scalar
 | _=>false
def oc(st:St)(τ:Ty):D->T D
 | .xg _ x=>match(vT x:Option (den τ))with | some y=>.ret (.xg τ y) | none=>.fail
 | .ptr b off=>match st[b]? with
  | some (.var d)=>match bif Nat.beq off 0 then iu τ d else none with | some y=>.ret (.xg τ y) | none=>.fail
  | _=>.fail
 | _=>.fail
def pM(st:St):XP->D->T D
 | .im τ,d=>(QC st τ d).bind λx=>.ret (.zC τ x)
 | .rp τ,d=>oc st τ d
def cU(st:St):List XP->List D->T (List D)
 | [],[]=>.ret []
 | p::r,d::ds=>(pM st p d).bind λx=>(cU st r ds).bind λl=>.ret (x::l)
 | _,_=>.fail
def De(st:St):ZP->D->T D
 | .ty τ,d=>(QC st τ d).bind λx=>.ret (.zC τ x)
 | .rp τ,d=>oc st τ d
 | .xl f caps,.xl f' l=>bif Nat.beq f f' then(cU st caps l).bind λl=>.ret (.xl f l)else .fail
 | _,_=>.fail
def o0(st:St):List ZP->List D->T (List D)
 | [],[]=>.ret []
 | p::r,d::ds=>(De st p d).bind λx=>(o0 st r ds).bind λl=>.ret (x::l)
 | _,_=>.fail
def z7X:D->Bool | .ptr .. => true | _=>false
def JH:D->Bool
 | .agg cs=>cs.any Ym
 | .xl _ l=>l.any λd=>Ym d||z7X d
 | .ptr .. => true
 | d=>Ym d
def z04(r:Bv×St):T (Option D):=match r with
 | (.ret ds,[])=>.ret (some (yV ds))
 | _=>.fail
def sy(r:Bv×St):T (Option D):=match r with
 | (.ret ds,[])=>bif ds.all ta then .ret (some (yV ds))else .fail
 | _=>.fail
def bw(g:Nat)(s:Sig)(args:List D):cv :=
 bif !(args.any JH)then .val ((o0 [] s.params args).bind λl=>(c.fn g l []).bind z04)
 else .rd λst=>(o0 st s.params args).bind λl=>(c.fn g l []).bind sy
def sJ(g:Nat)(args:List D):cv:=.wr λst=>(c.fn g args st).bind λr=>match r.1 with
 | .ret ds=>.ret (some (yV ds),r.2)
 | .yk _=>.fail
def gD(g:Nat):Nat:=bif Nat.ble 1000000 g then g % 1000000 else g
def jV{α:Type}(g:Nat)(l caps:List α):List α:=bif Nat.ble 1000000 g then caps++l else l++caps
def dI(f:Option D)(args:List (Option D)):cv:=match f,j5 args with
 | some (.xl g caps),some l=>match c.sig (gD g) (jV g l caps)with
  | some s=>bw c (gD g) s (jV g l caps)
  | none=>sJ c (gD g) (jV g l caps)
 | _,_=>bad
def Vj(a b:Int):Int:=if b<a then b else a
def nO(a b:Int):Int:=if a<b then b else a
def Jt(f:Int->Int->Int)(args:List (Option D)):cv:=match args with
 | [x,y]=>match asInt x,asInt y with
  | some (k,a),some (k',b)=>bif decide (k=k')then ib k (f a b)else bad
  | _,_=>bad
 | _=>bad
def yl{α:Type}(off len:Nat)(xs l:List α):List α:=xs.take off++l.take len++xs.drop (off+min len l.length)
def Sv(k:IntKind)(b qK off len:Nat)(l:List Int)(st:St):T (Option D×St):=match st[b]? with
 | some (.arr kG e' xs)=>match ex (.int k) xs with
  | some xs=>.zx (qK=kG/\off+len<=List.length xs) (.ret (some (.zC i64 ((min len l.length:Nat):Int)),st.set b (.arr kG (.int k) (yl off len xs l))))
  | none=>.fail
 | _=>.fail
def Is(t:Nat)(s x:Option D):cv:=match iC c t with
 | some et=>match c.P.underlying et,l8 c et,s,x with
  | some (.int k),some 1,some (.ms b qK (.int k') off len),some d=>bif decide (k'=k)then .wr λst=>(nY st d).bind λy=>match CB (.int k) y with
    | some l=>Sv k b qK off len l st
    | none=>.fail
   else bad
  | _,_,_,_=>bad
 | none=>bad
def mj(b:Builtin)(ts:List Nat)(args:List (Option D)):cv:=match b,ts,args with
 | .len,t::_,x::_=>z0q c t x
 | .append,[t,t'],[s,x]=>bif Nat.beq t t' then X1 c t s x else sI c t t' s x
 | .copy,[t,_],[s,x]=>Is c t s x
 | .min,_,args=>Jt Vj args
 | .max,_,args=>Jt nO args
 | _,_,_=>bad
def jh(fr:Fr):Operand->Option D
 | .tmp t=>fr.get t
 | .const v=>WG v
 | .global _=>none
 | .func f=>bif Nat.blt f 1000000 then some (.xl f [])else none
def Z5(x:Option D):cv:=match x with
 | some (.ptr b o)=>val (.ptr b o)
 | some (.xg τ x)=>val (.xg τ x)
 | some (.uY b v e i o)=>val (.uY b v e i o)
 | some (.xl f l)=>val (.xl f l)
 | _=>bad
def EY(x a b:Option D):cv:=match asBool x with
 | some x=>.val (.ite x (.ret a) (.ret b))
 | none=>bad
def rI(t:Nat)(x:Option D):cv:=match c.P.underlying t with
 | some (.interface _) | none=>bad
 | some _=>match x with | some d=>val (.iface t d) | none=>bad
def Ss(x:Option D):cv:=match x with
 | some d=>bif d.jl||d.typed.isSome then bad else .wr λst=>.ret (some (.ptr st.length 0),st++[.var d])
 | none=>bad
def z0D(t:Nat)(x:Option D):cv:=match x with
 | some (.zC τ x)=>val (.xg τ x)
 | some d=>match Bf c 20 t with
  | some τ=>match iu τ d with | some x=>val (.xg τ x) | none=>bad
  | none=>bad
 | none=>bad
def zah:Option Nat->Bool
 | some s=>c.ro s
 | none=>false
def T5(t:Nat)(dst:Option Nat)(x:Option D):cv:=bif zah c dst then z0D c t x else Ss x
def mQ(t:Nat):cv:=match WY c t with
 | some d=>.wr λst=>.ret (some (.ptr st.length 0),st++[.var d])
 | none=>bad
def qO(ρ:Operand->Option D)(o:Oper):cv:=match o.op with
 | .move x | .assign x=>.val (.ret (ρ x))
 | .pick x a b=>EY (ρ x) (ρ a) (ρ b)
 | .alloc t=>mQ c t
 | .box t x=>T5 c t o.dst (ρ x)
 | .load t a=>JU c t (ρ a)
 | .store t a v=>VD c t (ρ a) (ρ v)
 | .nilCheck x=>Z5 (ρ x)
 | .binOp op t x y _=>FR c op t y (ρ x) (ρ y)
 | .typeAssert x _ t ok=>nD c (ρ x) t ok
 | .unOp op _ x=>S3 op (ρ x)
 | .convert s t x=>convertOp c s t (ρ x)
 | .makeInterface t x=>rI c t (ρ x)
 | .makeFunc (.func f) first cap=>bif Nat.beq first.size 0&&Nat.blt f 1000000 then match j5 (cap.toList.map ρ)with | some l=>val (.xl f l) | none=>bad
   else bif Nat.beq cap.size 0&&Nat.blt f 1000000 then match j5 (first.toList.map ρ)with | some l=>val (.xl (f+1000000) l) | none=>bad else bad
 | .makeSlice t l m=>FH c t (ρ l) (ρ m)
 | .slice t x lo hi mx=>HQ c t (ρ x) (lo.map ρ) (hi.map ρ) (mx.map ρ)
 | .fieldAddr s x f=>pN c s f (ρ x)
 | .field s x f=>HF c s f (ρ x)
 | .indexAddr t x i=>oH c t (ρ x) (ρ i)
 | .index t x i=>GQ c t (ρ x) (ρ i)
 | .extract x i=>XQ (ρ x) i
 | .build t ps=>Be c t (ps.toList.map λp=>(p.1,ρ p.2))
 | .buildSlice t n ps=>mR c t n (ps.toList.map λp=>(p.1,ρ p.2))
 | .call cl=>match cl.callee with
  | .builtin b=>mj c b cl.argTypes.toList (cl.args.toList.map ρ)
  | .value f=>dI c (ρ f) (cl.args.toList.map ρ)
  | .invoke _ _=>bad
 | _=>bad
def zR:cv->St->T (Option D×St)
 | .val t,st=>t.bind λd=>.ret (d,st)
 | .rd k,st=>(k st).bind λd=>.ret (d,st)
 | .wr k,st=>k st
end ops
end Go.AM
namespace Go.AM
def cv.kind:cv->Nat
 | .val _=>0
 | .rd _=>1
 | .wr _=>2
def jf(ops:Array Oper)(j:Nat):Option Nat:=match ops[j]? with | some o=>o.dst | none=>none
def O6:D:=.gE []
def uq(n:Nat):Option Nat->Bool
 | some t=>Nat.blt t n
 | none=>true
section
variable (c:Ctx)
variable [tw]
def dM(kn:Kn):Operand->Option Bool
 | .tmp t=>kn.get t
 | .const (.bool b)=>some b
 | _=>none
def KF(kn:Kn):Op->Option Bool
 | .move x | .assign x=>dM kn x
 | .pick x a b=>match dM kn x with
  | some true=>dM kn a
  | some false=>dM kn b
  | none=>none
 | _=>none
def oh(kn:Kn)(fr:Fr)(o:Oper):cv:=match o.op with
 | .pick x a b=>match dM kn x with
  | some true=>.val (.ret (jh fr a))
  | some false=>.val (.ret (jh fr b))
  | none=>qO c (jh fr) o
 | _=>qO c (jh fr) o
def KK(kn:Kn)(dst:Option Nat)(b:Option Bool):Kn:=match dst with | some t=>(t,b)::kn | none=>kn
inductive RK where
 | z (k:Nat) | rd (b:Nat) | wr (free:List Nat) | up (b:Nat)
def RK.base:RK->Nat
 | .z k=>k
 | .rd _=>1
 | .wr _=>2
 | .up _=>2
def others(n:Nat)(l:List Nat):List Nat:=(List.range n).filter λb => !(l.any (Nat.beq b))
def z6x(d:Option D):Option Nat:=match d with
 | some d=>match d with
  | .ptr b _=>some b
  | .uY b _ _ _ _=>some b
  | _=>none
 | none=>none
def LQ(bi:Builtin)(l:List (Option D)):RK:=match bi with
 | .append=>match l with | [some (.ms b _ _ _ _),some x]=>bif Ym x then .z 2 else .up b | _=>.z 2
 | _=>.z 2
def wA(ρ:Operand->Option D)(st:St)(o:Oper):RK:=match(qO c ρ o).kind with
 | 1=>match o.op with
  | .load _ a=>match z6x (ρ a)with | some b=>.rd b | none=>.z 1
  | _=>.z 1
 | 2=>match o.op with
  | .alloc _=>.wr (others st.length [])
  | .store _ a _=>match z6x (ρ a)with | some b=>.up b | none=>.z 2
  | .call cl=>match cl.callee with
   | .value f=>match ρ f,j5 (cl.args.toList.map ρ)with | some (.xl g caps),some l=>.wr (c.free (gD g) (jV g l caps) st) | _,_=>.z 2
   | .builtin bi=>LQ bi (cl.args.toList.map ρ)
   | _=>.z 2
  | _=>.z 2
 | k=>.z k
structure dS where
 fr:Fr
 kn:Kn
 st:St
 ks:List Nat      -- kinds of what has run,the last first
 bk:List RK
def bK(n:Nat)(o:Oper)(s:dS):T dS :=
 bif uq n o.dst then
  let cl:=oh c s.kn s.fr o
  (zR cl s.st).bind λr=>.ret ⟨s.fr.put o.dst r.1,KK s.kn o.dst (KF s.kn o.op),r.2,cl.kind::s.ks,wA c (jh s.fr) s.st o::s.bk⟩
 else .fail
def jT(o:Oper)(s:dS):dS:=⟨s.fr.put o.dst (some O6),KK s.kn o.dst none,s.st,0::s.ks,.z 0::s.bk⟩
def dS.cj(s:dS)(t:Nat)(b:Bool):dS:={ s with kn:=(t,some b)::s.kn }
def stepG(n:Nat)(ops:Array Oper)(o:Oper)(s:dS):T dS:=match o.guard with
 | none=>bK c n o s
 | some (j,want)=>match jf ops j with
  | none=>.fail
  | some t=>match s.kn.get t with
   | some b=>bif b==want then bK c n o s else bif uq n o.dst then .ret (jT o s)else .fail
   | none=>match s.fr.get t with
    | some (.zC .bool x)=>bif uq n o.dst then
      .ite x (bif want then bK c n o (s.cj t true)else .ret (jT o (s.cj t true)))
          (bif want then .ret (jT o (s.cj t false))else bK c n o (s.cj t false))
     else .fail
    | some (.gE [])=>bif uq n o.dst then .ret (jT o s)else .fail
    | _=>.fail
def lJ(n:Nat)(ops:Array Oper):List Oper->dS->T dS
 | [],s=>.ret s
 | o::l,s=>(stepG c n ops o s).bind λs'=>lJ n ops l s'
def tmpsOf(ops:Array Oper)(o:Oper):List Nat :=
 (match o.dst with | some d=>[d] | none=>[]) ++
 (match o.guard with | some (j,_)=>(match jf ops j with | some s=>[s] | none=>[]) | none=>[]) ++
 o.op.operands.toList.filterMap λ| .tmp t=>some t | _=>none
def xz(l:List Oper):List Nat->List Nat
 | acc=>match l with
  | []=>acc
  | o::r=>xz r (acc++[o.after.toList.foldl (λs e=>bif Region.binds .any e then s ||| 2 ^ e.on ||| acc.getD e.on 0 else s) 0])
def ordered(bs:List Nat)(i j:Nat):Bool:=Nat.testBit (bs.getD j 0) i
def uZ(k l:Nat):Bool:=(Nat.beq k 2 && !Nat.beq l 0)||(Nat.beq l 2 && !Nat.beq k 0)
def FJ{K:Type}(cl:K->K->Bool)(bs:List Nat)(xs:List (Nat×Option Nat×List Nat×K))(j:Nat)(dj:Option Nat)(tj:List Nat)(kj:K):Bool :=
 xs.all λx=>ordered bs x.1 j||(!(match x.2.1 with | some d=>tj.contains d | none=>false) && !(match dj with | some d=>x.2.2.1.contains d | none=>false) && !cl x.2.2.2 kj)
def mY{K:Type}(cl:K->K->Bool)(ops:Array Oper)(bs:List Nat):List Oper->List K->Nat->List (Nat×Option Nat×List Nat×K)->Bool
 | [],_,_,_=>true
 | o::l,k::ks,j,xs=>let tj:=tmpsOf ops o; FJ cl bs xs j o.dst tj k&&mY cl ops bs l ks (j+1) ((j,o.dst,tj,k)::xs)
 | _,_,_,_=>false
def bW:List Oper->Nat->Bool
 | [],_=>true
 | o::l,j=>o.after.toList.all (λe => !Region.binds .any e||Nat.blt e.on j)&&bW l (j+1)
def Mn(ops:Array Oper)(ks:List Nat):Bool :=
 let l:=ops.toList
 bW l 0&&mY uZ ops (xz l []) l ks 0 []
def Vy(o:Oper):Bool:=(match o.op with | .alloc _=>true | _=>false)&&o.guard.isNone&&o.dst.isSome
def Ja:List Oper->List Nat->List Nat
 | o::l,k::ks=>(bif Vy o then 3 else k)::Ja l ks
 | _,_=>[]
def pB(k l:Nat):Bool:=bif Nat.beq k 3&&Nat.beq l 3 then false else uZ (bif Nat.beq k 3 then 2 else k) (bif Nat.beq l 3 then 2 else l)
def Um:List Oper->Nat->List Nat
 | [],_=>[]
 | o::l,i=>bif Vy o then i::Um l (i+1)else Um l (i+1)
def BT(bs al:List Nat)(n:Nat):Bool:=(List.range n).all λj => !(al.any λp=>ordered bs p j)||al.all λp=>ordered bs p j
def MD(ops:Array Oper)(ks:List Nat):Bool :=
 let l:=ops.toList
 bW l 0&&(ks.all λk=>Nat.ble k 2)&&mY pB ops (xz l []) l (Ja l ks) 0 []&&BT (xz l []) (Um l 0) l.length
def uW:RK->RK->Bool
 | .rd b,.wr A => !(A.any (Nat.beq b))
 | .wr A,.rd b => !(A.any (Nat.beq b))
 | .rd b,.up a=>Nat.beq a b
 | .up a,.rd b=>Nat.beq a b
 | .up a,.up b=>Nat.beq a b
 | x,y=>uZ x.base y.base
def Mt(ops:Array Oper)(ks:List RK):Bool :=
 let l:=ops.toList
 bW l 0&&mY uW ops (xz l []) l ks 0 []
def Zz(ops:Array Oper)(ks:List Nat)(bk:List RK):Bool:=Mn ops ks||MD ops ks||Mt ops bk
def cE(n:Nat)(ops:Array Oper)(draw:Bool)(fr:Fr)(kn:Kn)(st:St):T dS :=
 (lJ c n ops ops.toList ⟨fr,kn,st,[],[]⟩).bind λs=>bif !draw||Zz ops s.ks.reverse s.bk.reverse then .ret s else .fail
structure zfN where
 ex:Ex
 fr:Fr
 kn:Kn
 st:St
structure zfO where
 ex:Ex
 out:List (Nat×D)
 st:St
abbrev ze2:=Nat->Fr->St->T zfO
def z8H(l:List (Nat×D)):Fr:=l.map λp=>(p.1,some p.2)
def ev(n:Nat)(L:ze2):Code->Fr->Kn->St->T zfN
 | .skip,fr,kn,st=>.ret ⟨.normal,fr,kn,st⟩
 | .region _ ops draw,fr,kn,st=>(cE c n ops draw fr kn st).bind λs=>.ret ⟨.normal,s.fr,s.kn,s.st⟩
 | .seq a b,fr,kn,st=>(ev n L a fr kn st).bind λr=>match r.ex with
  | .normal=>ev n L b r.fr r.kn r.st
  | _=>.ret r
 | .cond x a b,fr,kn,st=>match dM kn x with
  | some true=>ev n L a fr kn st
  | some false=>ev n L b fr kn st
  | none=>match x with
   | .tmp t=>match fr.get t with
    | some (.zC .bool v)=>.ite v (ev n L a fr ((t,some true)::kn) st) (ev n L b fr ((t,some false)::kn) st)
    | _=>.fail
   | _=>.fail
 | .block id (.loop _),fr,_,st=>(L id fr st).bind λr=>match r.ex with
   | .exit id'=>bif Nat.beq id' id then .ret ⟨.normal,z8H r.out,[],r.st⟩else .ret ⟨.exit id',z8H r.out,[],r.st⟩
   | .normal=>.fail
   | x=>.ret ⟨x,z8H r.out,[],r.st⟩
 | .block id a,fr,kn,st=>(ev n L a fr kn st).bind λr=>match r.ex with
  | .exit id'=>bif Nat.beq id' id then .ret { r with ex:=.normal } else .ret r
  | _=>.ret r
 | .exit id,fr,kn,st=>.ret ⟨.exit id,fr,kn,st⟩
 | .ret,fr,kn,st=>.ret ⟨.ret,fr,kn,st⟩
 | _,_,_,_=>.fail
def wT:List D->Nat->Fr
 | [],_=>[]
 | d::r,i=>(i,some d)::wT r (i+1)
def cq(fr:Fr)(st:St):List ResultVar->T (List D)
 | []=>.ret []
 | .tmp t::r=>match fr.get t with
  | some d=>(cq fr st r).bind λl=>.ret (d::l)
  | none=>.fail
 | .cell a t::r=>match fr.get a with
  | some (.ptr b off)=>match st[b]? with
   | some (.var d)=>match EJ c t d off with
    | some x=>(cq fr st r).bind λl=>.ret (x::l)
    | none=>.fail
   | _=>.fail
  | _=>.fail
def uj(n:Nat):D->Bool
 | .ptr b _=>Nat.blt b n
 | .yu b _=>Nat.blt b n
 | .uY b .. => Nat.blt b n
 | .ms b .. => Nat.blt b n
 | .xl .. | .agg _ | .gE _ | .iface .. => false
 | _=>true
def bI(n:Nat):D->Bool
 | .xl _ l=>l.all (uj n)
 | .agg l=>l.all (uj n)
 | .iface _ d=>uj n d
 | d=>uj n d
def Bm(n:Nat):yg->Bool
 | .var d=>bI n d
 | _=>true
end
end Go.AM
namespace Go.AM
open Go.RowKit
inductive Rc(w:World)(ok:Nat->Prop):(τ:Ty)->den τ->List Value->Prop
 | int (k:IntKind) (n:Int):Rc w ok (.int k) n [.int k n]
 | bool (b:Bool):Rc w ok .bool b [.bool b]
 | str (s:zd):Rc w ok .str s [.string ⟨s.toArray⟩]
 | lp (e:Ty) (a:Option Addr):Rc w ok (.sl e) ([]:List (den e)) [.slice a 0 0]
 | sl (e:Ty) (l:List (den e)) (blk off cap:Nat) (f:Nat->List Value) (wU:ok blk) (vO:l.length<=cap)
   (h:∀ i (hi:i<l.length),Rc w ok e l[i] (f i))
   (hc:∀ i,i<l.length->∀ j v,(f i)[j]? = some v->w.cell? ⟨blk,off+i*e.size+j,none⟩=some v) :
   Rc w ok (.sl e) l [.slice (some ⟨blk,off,none⟩) l.length cap]
 | nil:Rc w ok .nil () []
 | cons (a b:Ty) (x:den a) (y:den b) (c1 c2:List Value) (h1:Rc w ok a x c1) (h2:Rc w ok b y c2):Rc w ok (.cons a b) (x,y) (c1++c2)
 | expr (k:Int) (n:den G0) (s:zd) (l:List Expr) (cs:List Value) (h:Rc w ok Vg (k,n,s,l,()) cs):Rc w ok .expr (.mk k n s l) cs
def Ew(w w':World)(ok Wl:Nat->Prop):Prop:=∀ k,ok k->Wl k/\w'.heap[k]? = w.heap[k]?
theorem cG{w w':World}{a:Addr}(h:w'.heap[a.block]? = w.heap[a.block]?):w'.cell? a=w.cell? a:=by simp[World.cell?,h]
section
variable {w w':World} {ok Wl:Nat->Prop}
theorem Rc.mono{τ:Ty}{x:den τ}{cs:List Value}(hs:Ew w w' ok Wl)(h:Rc w ok τ x cs):Rc w' Wl τ x cs:=by
 induction h with
 | int k n=>exact .int k n
 | bool b=>exact .bool b
 | str s=>exact .str s
 | lp e a=>exact .lp e a
 | sl e l blk off cap f wU vO h hc ih=>exact .sl e l blk off cap f (hs _ wU).1 vO ih λi hi j v hv=>by rw[cG (hs _ wU).2]; exact hc i hi j v hv
 | nil=>exact .nil
 | cons a b x y c1 c2 h1 h2 i1 i2=>exact .cons a b x y c1 c2 i1 i2
 | expr k n s l cs h ih=>exact .expr k n s l cs ih
theorem Rc.len{τ:Ty}{x:den τ}{cs:List Value}(h:Rc w ok τ x cs):cs.length=τ.size:=by
 induction h with
 | cons a b x y c1 c2 h1 h2 i1 i2=>simp[Ty.size,i1,i2]
 | expr k n s l cs h ih=>simpa[Ty.size]using ih
 | _=>rfl
theorem Rc.one{τ:Ty}{x:den τ}{cs:List Value}(h:Rc w ok τ x cs):∀ v∈cs,v.oneCell'=true:=by
 induction h with
 | cons a b x y c1 c2 h1 h2 i1 i2=>grind
 | expr k n s l cs h ih=>exact ih
 | _=>intro v hv; simp at hv; try (subst hv; rfl)
theorem Rc.gb{k:IntKind}{n:Int}{cs:List Value}(h:Rc w ok (.int k) n cs):cs=[.int k n]:=by cases h; rfl
theorem Rc.kt{n:Bool}{cs:List Value}(h:Rc w ok .bool n cs):cs=[.bool n]:=by cases h; rfl
theorem Rc.vo{n:zd}{cs:List Value}(h:Rc w ok .str n cs):cs=[.string ⟨n.toArray⟩]:=by cases h; rfl
theorem Rc.cons_inv{a b:Ty}{x:den (.cons a b)}{cs:List Value}(h:Rc w ok (.cons a b) x cs):∃ c1 c2,cs=c1++c2/\Rc w ok a x.1 c1/\Rc w ok b x.2 c2:=by
 cases h with | cons _ _ x y c1 c2 h1 h2=>exact⟨c1,c2,rfl,h1,h2⟩
theorem Rc.ql{x:den .nil}{cs:List Value}(h:Rc w ok .nil x cs):cs=[]:=by cases h; rfl
theorem Rc.Cb{x:Expr}{cs:List Value}(h:Rc w ok .expr x cs):Rc w ok Vg x.Tq cs:=by cases h with | expr k n s l cs h=>exact h
theorem Rc.Xx{e:Ty}{l:List (den e)}{cs:List Value}(h:Rc w ok (.sl e) l cs):(l=[]/\∃ a,cs=[.slice a 0 0]) \/
  ∃ (blk off cap:Nat) (f:Nat->List Value),cs=[.slice (some ⟨blk,off,none⟩) l.length cap]/\ok blk/\l.length<=cap/\(∀ i (hi:i<l.length),Rc w ok e l[i] (f i)) /\
   (∀ i,i<l.length->∀ j v,(f i)[j]? = some v->w.cell? ⟨blk,off+i*e.size+j,none⟩=some v):=by
 cases h with
 | lp _ a=>simp
 | sl _ _ blk off cap f wU vO h hc=>exact .inr ⟨blk,off,cap,f,rfl,wU,vO,h,hc⟩
end
def pk(τ:Ty)(cs:List Value):Value:=if τ.isAgg then .agg cs.toArray else cs.headD undef
structure KS where
 w:World
 ok:Nat->Prop
 ph:List (Option (Nat×Nat))
 st:St
def IF(ph:List (Option (Nat×Nat)))(b zfn:Nat)(e:Ty)(off len:Nat)(v:Value):Prop :=
 off+len<=zfn/\((len=0/\off=0/\v=.slice none 0 0/\ph[b]? = some none) \/
  ∃ (blk n o cap:Nat),ph[b]? = some (some (blk,n))/\v=.slice (some ⟨blk,o,none⟩) len cap/\len<=cap/\(off+cap)*e.size<=n/\(cap=0\/o=off*e.size))
def Old(st:St)(b qK:Nat):Prop:=st[b]? = some .dead\/∃ (v0:Nat) (e0:Ty) (Zu:List (den e0)),st[b]? = some (.arr v0 e0 Zu)/\qK<=v0
def D.one:D->Bool
 | .zC τ _ => !τ.isAgg
 | .agg _ | .gE _=>false
 | _=>true
def oz(f:Nat)(vs:List Value):Value:=bif Nat.ble 1000000 f then .func (.func (f % 1000000)) vs.toArray #[]else .func (.func f) #[] vs.toArray
theorem GV{f:Nat}(h:Nat.blt f 1000000=true)(vs:List Value):oz f vs=.func (.func f) #[] vs.toArray:=by
 have:Nat.ble 1000000 f=false:=by
  cases hb:Nat.ble 1000000 f with
  | false=>rfl
  | true=>have h1:=Nat.le_of_ble_eq_true hb; have h2:=Nat.le_of_ble_eq_true h; omega
 unfold oz; rw[this]; rfl
theorem ED{f:Nat}(h:Nat.blt f 1000000=true)(vs:List Value):oz (f+1000000) vs=.func (.func f) vs.toArray #[]:=by
 have h1:Nat.ble 1000000 (f+1000000)=true:=Nat.ble_eq_true_of_le (by omega)
 have h2:=Nat.le_of_ble_eq_true h
 have h3:(f+1000000) % 1000000=f:=by omega
 unfold oz; rw[h1,h3]; rfl
theorem Js(f:Nat)(vs:List Value):(oz f vs).cells.toList=[oz f vs]:=by
 unfold oz; cases Nat.ble 1000000 f<;>rfl
theorem PS(f:Nat)(vs:List Value):(oz f vs).oneCell'=true:=by
 unfold oz; cases Nat.ble 1000000 f<;>rfl
theorem Jj(f:Nat)(vs:List Value):∃ g a b,oz f vs=.func (.func g) a b:=by
 unfold oz; cases Nat.ble 1000000 f<;>exact⟨_,_,_,rfl⟩
inductive RD(κ:KS):D->Value->Prop
 | zC (τ:Ty) (x:den τ) (cs:List Value) (h:Rc κ.w κ.ok τ x cs):RD κ (.zC τ x) (pk τ cs)
 | xr (e:Ty) (a:Option Addr):RD κ (.tight e ([]:List (den e)) false) (.slice a 0 0)
 | tight (e:Ty) (l:List (den e)) (ne:Bool) (blk off:Nat) (f:Nat->List Value) (um:ne=true->l≠[]) (wU:κ.ok blk)
   (h:∀ i (hi:i<l.length),Rc κ.w κ.ok e l[i] (f i))
   (hc:∀ i,i<l.length->∀ j v,(f i)[j]? = some v->κ.w.cell? ⟨blk,off+i*e.size+j,none⟩=some v) :
   RD κ (.tight e l ne) (.slice (some ⟨blk,off,none⟩) l.length l.length)
 | xH:RD κ .xH (.slice none 0 0)
 | yR:RD κ .yR (.pointer none)
 | xj:RD κ .xj .nilIface
 | uu:RD κ .uu .nilFunc
 | uv:RD κ .uv (.map none)
 | tP (v:Value) (h:v.oneCell'=true):RD κ .tP v
 | dx (T:Nat):RD κ (.dx T) (.pointer none)
 | dr (b T:Nat) (d:D) (hd:κ.st[b]? = some (.var d)):RD κ (.yu b T) (.pointer none)
 | dq (b T blk n:Nat) (d:D) (hd:κ.st[b]? = some (.var d)) (h:κ.ph[b]? = some (some (blk,n))):RD κ (.yu b T) (.pointer (some ⟨blk,0,none⟩))
 | ptr (b off blk n:Nat) (d:D) (hd:κ.st[b]? = some (.var d)) (h:κ.ph[b]? = some (some (blk,n))):RD κ (.ptr b off) (.pointer (some ⟨blk,off,none⟩))
 | xg (τ:Ty) (x:den τ) (cs:List Value) (blk off:Nat) (wU:κ.ok blk) (h:Rc κ.w κ.ok τ x cs)
   (hc:∀ j v,cs[j]? = some v->κ.w.cell? ⟨blk,off+j,none⟩=some v):RD κ (.xg τ x) (.pointer (some ⟨blk,off,none⟩))
 | uY (b qK:Nat) (e:Ty) (idx off blk o:Nat) (hb:Old κ.st b qK)
   (h:∀ xs:List (den e),κ.st[b]? = some (.arr qK e xs)->idx<xs.length->∃ n:Nat,κ.ph[b]? = some (some (blk,n))/\o=idx*e.size+off) :
   RD κ (.uY b qK e idx off) (.pointer (some ⟨blk,o,none⟩))
 | ms (b qK:Nat) (e:Ty) (off len cap:Nat) (a:Option Addr) (hb:Old κ.st b qK) (vO:len<=cap) (ha:a=none->cap=0) (mb:∀ p,a=some p->p.spot=none)
   (h:∀ xs:List (den e),κ.st[b]? = some (.arr qK e xs)->IF κ.ph b xs.length e off len (.slice a len cap)):RD κ (.ms b qK e off len) (.slice a len cap)
 | xl (f:Nat) (l:List D) (vs:List Value) (hl:l.length=vs.length) (h:∀ i (h1:i<l.length) (h2:i<vs.length),RD κ l[i] vs[i]):RD κ (.xl f l) (oz f vs)
 | agg (l:List D) (vs:List Value) (hl:l.length=vs.length) (ho:∀ d∈l,d.one=true) (h:∀ i (h1:i<l.length) (h2:i<vs.length),RD κ l[i] vs[i]):RD κ (.agg l) (.agg vs.toArray)
 | gE (l:List D) (vs:List Value) (hl:l.length=vs.length) (h:∀ i (h1:i<l.length) (h2:i<vs.length),RD κ l[i] vs[i]):RD κ (.gE l) (.tuple vs.toArray)
 | iface (t:Nat) (d:D) (v:Value) (h:RD κ d v):RD κ (.iface t d) (.iface t v)
def qN(κ:KS)(l:List D)(vs:List Value):Prop:=l.length=vs.length/\∀ i (h1:i<l.length) (h2:i<vs.length),RD κ l[i] vs[i]
def fb[tw](κ:KS)(b:Nat):yg->Prop
 | .dead=>True
 | .var d=>∃ (blk n:Nat) (cs:Array Value) (t:TypeId),κ.ph[b]? = some (some (blk,n))/\κ.w.heap[blk]? = some (.cells cs t (0,0))/\cs.size=n/\qN κ (qo d) cs.toList/\(∀ x∈qo d,x.one=true)/\∀ T,d.typed=some T->t=T
 | .arr _ e xs=>0<e.size/\((xs=[]/\κ.ph[b]? = some none) \/
   ∃ (blk n:Nat) (cs:Array Value) (t:TypeId),κ.ph[b]? = some (some (blk,n))/\κ.w.heap[blk]? = some (.cells cs t (0,0))/\cs.size=n/\xs.length*e.size<=n/\z4H e t /\
    ∃ f:Nat->List Value,∀ i (hi:i<xs.length),Rc κ.w κ.ok e xs[i] (f i)/\∀ j v,(f i)[j]? = some v->cs[i*e.size+j]? = some v)
class uy extends tw where
 tab:List (Nat×(Obj->Prop))
def ZI[uy](w:World)(ok:Nat->Prop):Prop:=∀ x∈uy.tab,ok x.1/\∃ o,w.heap[x.1]? = some o/\x.2 o
theorem ZI.mono[uy]{w w':World}{ok Wl:Nat->Prop}(h:ZI w ok)(hs:Ew w w' ok Wl):ZI w' Wl:=λx hx=>by
 obtain⟨h1,o,h2,h3⟩:=h x hx
 obtain⟨g1,g2⟩:=hs _ h1
 grind
structure Inv[uy](κ:KS):Prop where
 len:κ.ph.length=κ.st.length
 gi:∀ k,κ.ok k->k<κ.w.heap.size
 apart:∀ (b blk n:Nat),κ.ph[b]? = some (some (blk,n))->blk<κ.w.heap.size/\¬ κ.ok blk
 inj:∀ (b b' blk n n':Nat),κ.ph[b]? = some (some (blk,n))->κ.ph[b']? = some (some (blk,n'))->b=b'
 blk:∀ (b:Nat) (x:yg),κ.st[b]? = some x->fb κ b x
 gl:ZI κ.w κ.ok
structure Ext(κ κ':KS):Prop where
 os:κ'.w.os=κ.w.os
 tape:κ'.w.tape=κ.w.tape
 output:κ'.w.output=κ.w.output
 size:κ.w.heap.size<=κ'.w.heap.size
 same:Ew κ.w κ'.w κ.ok κ'.ok
 fresh:∀ k,κ'.ok k->κ.ok k\/κ.w.heap.size<=k\/∃ b n:Nat,κ.ph[b]? = some (some (k,n))
 phs:∀ (b blk n:Nat),κ'.ph[b]? = some (some (blk,n))->κ.ph[b]? = some (some (blk,n))\/κ.w.heap.size<=blk
 var:∀ (b:Nat) (d:D),κ.st[b]? = some (.var d)->(∃ d',κ'.st[b]? = some (.var d'))/\κ'.ph[b]? = κ.ph[b]?
 arr:∀ (b v0:Nat) (e:Ty) (Zu:List (den e)),κ.st[b]? = some (.arr v0 e Zu)->κ'.st[b]? = some .dead \/
  ∃ (v1:Nat) (jI:List (den e)),κ'.st[b]? = some (.arr v1 e jI)/\v0<=v1/\(v0=v1->κ'.ph[b]? = κ.ph[b]? /\ Zu.length=jI.length)
 dead:∀ (b:Nat),κ.st[b]? = some .dead->κ'.st[b]? = some .dead
 C0:κ.st.length<=κ'.st.length
 frame:∀ k,k<κ.w.heap.size->(∀ (b n:Nat),κ.ph[b]? ≠ some (some (k,n)))->κ'.w.heap[k]? = κ.w.heap[k]?
theorem Ext.refl(κ:KS):Ext κ κ :=
 ⟨rfl,rfl,rfl,Nat.le_refl _,λ_ h=>⟨h,rfl⟩,λ_ h=>.inl h,λ_ _ _ h=>.inl h,λ_ d h=>⟨⟨d,h⟩,rfl⟩,
  λ_ qK _ xs h=>.inr ⟨qK,xs,h,Nat.le_refl _,λ_=>⟨rfl,rfl⟩⟩,λ_ h=>h,Nat.le_refl _,λ_ _ _=>rfl⟩
theorem Ext.trans{a b c:KS}(h:Ext a b)(k:Ext b c):Ext a c:=by
 refine⟨k.os.trans h.os,k.tape.trans h.tape,k.output.trans h.output,Nat.le_trans h.size k.size,?_,?_,?_,?_,?_,λb hb=>k.dead b (h.dead b hb),Nat.le_trans h.C0 k.C0,?_⟩
 ·intro i hi
  obtain⟨h1,h2⟩:=h.same i hi
  obtain⟨h3,h4⟩:=k.same i h1
  grind
 ·intro i hi
  rcases k.fresh i hi with h1 | h1 | ⟨b,n,h1⟩
  ·exact h.fresh i h1
  ·exact .inr (.inl (Nat.le_trans h.size h1))
  ·rcases h.phs b i n h1 with h2 | h2
   ·grind
   ·grind
 ·intro i blk n hi
  rcases k.phs i blk n hi with h1 | h1
  ·exact h.phs i blk n h1
  ·exact .inr (Nat.le_trans h.size h1)
 ·intro i d hi
  obtain⟨⟨d',yw⟩,hp⟩:=h.var i d hi
  obtain⟨zl5,hp'⟩:=k.var i d' yw
  grind
 ·intro i v0 e Zu hi
  rcases h.arr i v0 e Zu hi with h1 | ⟨v1,x1,h1,h2,h3⟩
  ·exact .inl (k.dead i h1)
  ·rcases k.arr i v1 e x1 h1 with g1 | ⟨v2,x2,g1,g2,g3⟩
   ·grind
   ·grind
 ·intro i hi hn
  refine(k.frame i (Nat.lt_of_lt_of_le hi h.size) λb n hb => ?_).trans (h.frame i hi hn)
  rcases h.phs b i n hb with h1 | h1
  ·grind
  ·omega
theorem Ext.old{κ κ':KS}(x:Ext κ κ'){b qK:Nat}(h:Old κ.st b qK):Old κ'.st b qK:=by
 rcases h with h | ⟨v0,e0,Zu,h,hv⟩
 ·exact .inl (x.dead b h)
 ·rcases x.arr b v0 e0 Zu h with h1 | ⟨v1,x1,h1,h2,_⟩
  ·exact .inl h1
  ·exact .inr ⟨v1,e0,x1,h1,Nat.le_trans hv h2⟩
theorem Ext.back{κ κ':KS}(x:Ext κ κ'){b qK:Nat}(h:Old κ.st b qK){e:Ty}{xs:List (den e)}(hx:κ'.st[b]? = some (.arr qK e xs)) :
  ∃ Zu:List (den e),κ.st[b]? = some (.arr qK e Zu)/\κ'.ph[b]? = κ.ph[b]? /\ Zu.length=xs.length:=by
 rcases h with h | ⟨v0,e0,Zu,h,hv⟩
 ·have:=x.dead b h; rw[hx]at this; cases this
 ·rcases x.arr b v0 e0 Zu h with h1 | ⟨v1,x1,h1,h2,h3⟩
  ·grind
  ·grind
theorem RD.mono{κ κ':KS}(x:Ext κ κ'){d:D}{v:Value}(h:RD κ d v):RD κ' d v:=by
 induction h with
 | zC τ y cs h=>exact .zC τ y cs (h.mono x.same)
 | xr e a=>exact .xr e a
 | tight e l ne blk off f um wU h hc=>exact .tight e l ne blk off f um (x.same _ wU).1 (λi hi=>(h i hi).mono x.same) λi hi j v hv=>by rw[cG (x.same _ wU).2]; exact hc i hi j v hv
 | xH=>exact .xH
 | yR=>exact .yR
 | xj=>exact .xj
 | uu=>exact .uu
 | uv=>exact .uv
 | tP v h=>exact .tP v h
 | dx T=>exact .dx T
 | dr b T d hd =>
  obtain⟨⟨d',yw⟩,hp⟩:=x.var b d hd
  exact .dr b T d' yw
 | dq b T blk n d hd h =>
  obtain⟨⟨d',yw⟩,hp⟩:=x.var b d hd
  exact .dq b T blk n d' yw (hp.trans h)
 | ptr b off blk n d hd h =>
  obtain⟨⟨d',yw⟩,hp⟩:=x.var b d hd
  exact .ptr b off blk n d' yw (hp.trans h)
 | xg τ y cs blk off wU h hc=>exact .xg τ y cs blk off (x.same _ wU).1 (h.mono x.same) λj v hv=>by rw[cG (x.same _ wU).2]; exact hc j v hv
 | uY b qK e idx off blk o hb h =>
  refine .uY b qK e idx off blk o (x.old hb) λxs hx hi => ?_
  obtain⟨Zu,h1,h2,h3⟩:=x.back hb hx
  grind
 | ms b qK e off len cap a hb vO ha mb h =>
  refine .ms b qK e off len cap a (x.old hb) vO ha mb λxs hx => ?_
  obtain⟨Zu,h1,h2,h3⟩:=x.back hb hx
  have:=h Zu h1
  unfold IF at this ⊢
  grind
 | xl f l vs hl h ih=>exact .xl f l vs hl ih
 | agg l vs hl ho h ih=>exact .agg l vs hl ho ih
 | gE l vs hl h ih=>exact .gE l vs hl ih
 | iface t d v h ih=>exact .iface t d v ih
end Go.AM
namespace Go.AM
section
variable {α β:Type}
theorem T.zM{t:T α}{k:α->T β}{b:β}:(t.bind k).leads b↔∃ a,t.leads a/\(k a).leads b:=by
 induction t with
 | ret a=>simp[T.bind,T.leads]
 | ite c t e i1 i2 =>
  simp only[T.bind,T.leads]
  grind
 | zx p t ih =>
  simp only[T.bind,T.leads]; constructor
  ·grind
  ·grind
 | fail=>simp[T.bind,T.leads]
theorem T.uJ{o:Option α}{a:α}:(T.YB o).leads a↔o=some a:=by cases o<;>simp[T.YB,T.leads]
end
section
variable {κ:KS}
theorem qN.nil:qN κ [] []:=⟨rfl,λi h _=>absurd h (Nat.not_lt_zero i)⟩
theorem qN.cons{d:D}{v:Value}{l:List D}{vs:List Value}(h:RD κ d v)(t:qN κ l vs):qN κ (d::l) (v::vs) :=
 ⟨by simp[t.1],λi h1 h2=>by cases i with | zero=>exact h | succ i=>exact t.2 i (by grind) (by grind)⟩
theorem qN.cons_inv{d:D}{l:List D}{vs:List Value}(h:qN κ (d::l) vs):∃ v r,vs=v::r/\RD κ d v/\qN κ l r:=by
 obtain⟨hl,h⟩:=h
 cases vs with
 | nil=>simp at hl
 | cons v r=>exact⟨v,r,rfl,h 0 (by simp) (by simp),by grind,λi h1 h2=>h (i+1) (by grind) (by grind)⟩
theorem qN.ql{vs:List Value}(h:qN κ [] vs):vs=[]:=List.eq_nil_of_length_eq_zero h.1.symm
theorem qN.append{l l':List D}{vs vs':List Value}(h:qN κ l vs)(h':qN κ l' vs'):qN κ (l++l') (vs++vs'):=by
 induction l generalizing vs with
 | nil=>rw[h.ql]; exact h'
 | cons d l ih=>obtain⟨v,r,rfl,h1,h2⟩:=h.cons_inv; exact .cons h1 (ih h2)
theorem qN.Ic{l l':List D}{vs:List Value}(h:qN κ (l++l') vs):∃ v1 v2,vs=v1++v2/\qN κ l v1/\qN κ l' v2:=by
 induction l generalizing vs with
 | nil=>exact⟨[],vs,rfl,.nil,h⟩
 | cons d l ih =>
  obtain⟨v,r,rfl,h1,h2⟩:=h.cons_inv
  obtain⟨v1,v2,rfl,h3,h4⟩:=ih h2
  exact⟨v::v1,v2,rfl,.cons h1 h3,h4⟩
theorem qN.get{l:List D}{vs:List Value}(h:qN κ l vs){i:Nat}{d:D}(hd:l[i]? = some d):∃ v,vs[i]? = some v/\RD κ d v:=by
 obtain⟨qD,he⟩:=List.getElem?_eq_some_iff.1 hd
 have h2:i<vs.length:=h.1▸qD
 exact⟨vs[i],List.getElem?_eq_getElem h2,he▸h.2 i qD h2⟩
theorem qN.take{l:List D}{vs:List Value}(h:qN κ l vs)(n:Nat):qN κ (l.take n) (vs.take n) :=
 ⟨by simp[h.1],λi h1 h2=>by simp; exact h.2 i (by grind) (by grind)⟩
theorem qN.drop{l:List D}{vs:List Value}(h:qN κ l vs)(n:Nat):qN κ (l.drop n) (vs.drop n) :=
 ⟨by simp[h.1],λi h1 h2=>by simp; exact h.2 (n+i) (by grind) (by grind)⟩
theorem qN.mono{κ':KS}(x:Ext κ κ'){l:List D}{vs:List Value}(h:qN κ l vs):qN κ' l vs:=⟨h.1,λi h1 h2=>(h.2 i h1 h2).mono x⟩
theorem Qj{τ:Ty}{cs:List Value}(h:cs.length=τ.size)(pQ:∀ v∈cs,v.oneCell'=true):(pk τ cs).cells.toList=cs:=by
 unfold pk
 split
 ·rfl
 ·rename_i hn
  have hs:τ.size=1:=by cases τ<;>simp[Ty.isAgg]at hn<;>rfl
  match cs,h,pQ with
  | [v],_,pQ =>
   have:=pQ v (by simp)
   cases v<;>first | rfl | cases this
  | [],h,_=>grind
  | _::_::_,h,_=>grind
theorem Ui{τ:Ty}(h:τ.isAgg=false)(v:Value):pk τ [v]=v:=by simp[pk,h]
theorem V0{τ:Ty}(h:τ.isAgg=false):τ.size=1:=by cases τ<;>simp[Ty.isAgg]at h<;>rfl
theorem Rc.single{w:World}{ok:Nat->Prop}{τ:Ty}{x:den τ}{cs:List Value}(h:Rc w ok τ x cs)(ht:τ.isAgg=false):∃ v,cs=[v]:=by
 have:=h.len
 rw[V0 ht]at this
 match cs,this with
 | [v],_=>simp
theorem RD.mP{τ:Ty}{x:den τ}{v:Value}(ht:τ.isAgg=false)(h:Rc κ.w κ.ok τ x [v]):RD κ (.zC τ x) v:=by
 have:=RD.zC τ x [v] h
 rwa [Ui ht]at this
theorem RD.bH{τ:Ty}{x:den τ}{v:Value}(h:RD κ (.zC τ x) v):∃ cs,Rc κ.w κ.ok τ x cs/\v=pk τ cs:=by
 cases h with | zC _ _ cs h=>exact⟨cs,h,rfl⟩
theorem RD.vW{τ:Ty}{x:den τ}{v:Value}(h:RD κ (.zC τ x) v)(ht:τ.isAgg=false):Rc κ.w κ.ok τ x [v]:=by
 obtain⟨cs,hc,rfl⟩:=RD.bH h
 obtain⟨u,rfl⟩:=hc.single ht
 rwa [Ui ht]
theorem RD.int{k:IntKind}{n:Int}:RD κ (.zC (.int k) n) (.int k n):=RD.mP rfl (.int k n)
theorem RD.bool{b:Bool}:RD κ (.zC .bool b) (.bool b):=RD.mP rfl (.bool b)
theorem RD.str{s:zd}:RD κ (.zC .str s) (.string ⟨s.toArray⟩):=RD.mP rfl (.str s)
theorem RD.gb{k:IntKind}{n:Int}{v:Value}(h:RD κ (.zC (.int k) n) v):v=.int k n:=by have:=(h.vW rfl).gb; simpa using this
theorem RD.kt{b:Bool}{v:Value}(h:RD κ (.zC .bool b) v):v=.bool b:=by have:=(h.vW rfl).kt; simpa using this
theorem RD.vo{s:zd}{v:Value}(h:RD κ (.zC .str s) v):v=.string ⟨s.toArray⟩:=by have:=(h.vW rfl).vo; simpa using this
theorem qN.one{d:D}{v:Value}(h:RD κ d v):qN κ [d] [v]:=.cons h .nil
theorem ru{τ:Ty}{x:den τ}{cs:List Value}(h:Rc κ.w κ.ok τ x cs):qN κ (flat τ x) cs:=by
 induction τ generalizing cs with
 | int k=>obtain⟨v,rfl⟩:=h.single rfl; exact .one (.mP rfl h)
 | bool=>obtain⟨v,rfl⟩:=h.single rfl; exact .one (.mP rfl h)
 | str=>obtain⟨v,rfl⟩:=h.single rfl; exact .one (.mP rfl h)
 | sl e _=>obtain⟨v,rfl⟩:=h.single rfl; exact .one (.mP rfl h)
 | nil=>rw[h.ql]; exact .nil
 | cons a b i1 i2=>obtain⟨c1,c2,rfl,h1,h2⟩:=h.cons_inv; exact(i1 h1).append (i2 h2)
 | expr =>
  obtain⟨c1,r1,rfl,h1,t1⟩:=h.Cb.cons_inv
  obtain⟨c2,r2,rfl,h2,t2⟩:=t1.cons_inv
  obtain⟨c3,r3,rfl,h3,t3⟩:=t2.cons_inv
  obtain⟨c4,r4,rfl,h4,t4⟩:=t3.cons_inv
  have e4:=t4.ql
  subst e4
  obtain⟨d1,s1,rfl,g1,u1⟩:=h2.cons_inv
  obtain⟨d2,s2,rfl,g2,u2⟩:=u1.cons_inv
  obtain⟨d3,s3,rfl,g3,u3⟩:=u2.cons_inv
  have e5:=u3.ql
  subst e5
  obtain⟨v1,rfl⟩:=h1.single rfl
  obtain⟨v3,rfl⟩:=h3.single rfl
  obtain⟨v4,rfl⟩:=h4.single rfl
  obtain⟨u1,rfl⟩:=g1.single rfl
  obtain⟨u2,rfl⟩:=g2.single rfl
  obtain⟨u3,rfl⟩:=g3.single rfl
  exact .cons (.mP rfl h1) (.cons (.mP rfl g1) (.cons (.mP rfl g2) (.cons (.mP rfl g3) (.cons (.mP rfl h3) (.cons (.mP rfl h4) .nil)))))
theorem fQ:∀ (τ:Ty) (x:den τ),∀ d∈flat τ x,d.one=true
 | .int _,_,d,h | .bool,_,d,h | .str,_,d,h | .sl _,_,d,h=>by simp[flat]at h; subst h; rfl
 | .nil,_,d,h=>by simp[flat]at h
 | .cons a b,x,d,h=>by
  simp only[flat,List.mem_append]at h
  rcases h with h | h
  ·exact fQ a x.1 d h
  ·exact fQ b x.2 d h
 | .expr,x,d,h=>by simp[flat]at h; rcases h with rfl | rfl | rfl | rfl | rfl | rfl<;>rfl
theorem QN:∀ (τ:Ty) (x:den τ),(flat τ x).length=τ.size
 | .int _,_ | .bool,_ | .str,_ | .sl _,_ | .nil,_ | .expr,_=>rfl
 | .cons a b,x=>by simp[flat,Ty.size,QN a,QN b]
theorem Gs{v:Value}(h:v.oneCell'=true):v.cells = #[v]:=by
 cases v<;>first | rfl | cases h
theorem jM{d:D}{v:Value}(h:RD κ d v)(ht:d.jl=false):qN κ (qo d) v.cells.toList:=by
 cases h with
 | zC τ x cs h=>rw[Qj h.len h.one]; exact ru h
 | agg l vs hl ho h=>exact⟨by simpa[Value.cells,qo]using hl,λi h1 h2=>by simp at h2 ⊢; exact h i h1 h2⟩
 | gE=>cases ht
 | xr e a=>exact .one (.xr e a)
 | tight e l ne blk off f um wU h hc=>exact .one (.tight e l ne blk off f um wU h hc)
 | xH=>exact .one .xH
 | yR=>exact .one .yR
 | xj=>exact .one .xj
 | uu=>exact .one .uu
 | uv=>exact .one .uv
 | tP v h=>rw[Gs h]; exact .one (.tP v h)
 | dx T=>exact .one (.dx T)
 | dr b T d hd=>exact .one (.dr b T d hd)
 | dq b T blk n d hd h=>exact .one (.dq b T blk n d hd h)
 | ptr b off blk n d hd h=>exact .one (.ptr b off blk n d hd h)
 | xg τ x cs blk off wU h hc=>exact .one (.xg τ x cs blk off wU h hc)
 | uY b qK e idx off blk o hb h=>exact .one (.uY b qK e idx off blk o hb h)
 | ms b qK e off len cap a hb vO ha mb h=>exact .one (.ms b qK e off len cap a hb vO ha mb h)
 | xl f l vs hl h=>rw[Js]; exact .one (.xl f l vs hl h)
 | iface t d v h=>exact .one (.iface t d v h)
theorem jN{d:D}{v:Value}(h:RD κ d v):∀ x∈qo d,x.one=true:=by
 cases h with
 | zC τ x cs h=>exact fQ τ x
 | agg l vs hl ho h=>exact ho
 | gE=>nofun
 | _=>intro x hx; simp[qo]at hx; subst hx; rfl
theorem RD.VX{d:D}{v:Value}(h:RD κ d v)(ho:d.one=true):v.oneCell'=true:=by
 cases h with
 | zC τ x cs h =>
  have ht:τ.isAgg=false:=by simpa[D.one]using ho
  obtain⟨v,rfl⟩:=h.single ht
  rw[Ui ht]
  exact h.one v (by simp)
 | agg=>cases ho
 | gE=>cases ho
 | tP v h=>exact h
 | xl f l vs=>exact PS f vs
 | _=>rfl
theorem qw{a b:Ty}{x:den a}{y:den b}(h:(vT x:Option (den b))=some y):∃ e:a=b,y=e▸x:=by
 unfold vT at h
 grind
theorem yF{τ:Ty}{d:D}{v:Value}{x:den τ}(h:RD κ d v)(hx:eV τ d=some x)(ht:τ.isAgg=false):Rc κ.w κ.ok τ x [v]:=by
 cases h with
 | zC σ y cs h =>
  obtain⟨rfl,rfl⟩:=qw hx
  obtain⟨u,rfl⟩:=h.single ht
  rwa [Ui ht]
 | xr e a=>obtain⟨rfl,rfl⟩:=qw hx; exact .lp e a
 | tight e l ne blk off f um wU h hc=>obtain⟨rfl,rfl⟩:=qw hx; exact .sl e _ blk off _ f wU (Nat.le_refl _) h hc
 | xH =>
  cases τ with
  | sl e=>simp[eV]at hx; subst hx; exact .lp e none
  | _=>simp[eV]at hx
 | _=>simp[eV]at hx
theorem sU:∀ (τ:Ty) {ds:List D} {vs:List Value} {x:den τ} {r:List D},qN κ ds vs->jW τ ds=some (x,r) ->
  ∃ c1 c2,vs=c1++c2/\Rc κ.w κ.ok τ x c1/\qN κ r c2
 | .int k,[],_,_,_,_,he | .bool,[],_,_,_,_,he | .str,[],_,_,_,_,he | .sl e,[],_,_,_,_,he | .expr,[],_,_,_,_,he=>by simp[jW]at he
 | .int k,d::r,vs,x,r',h,he=>by
  simp only[jW]at he
  split at he
  ·rename_i y hy; cases he; obtain⟨v,u,rfl,h1,h2⟩:=h.cons_inv; exact⟨[v],u,rfl,yF h1 hy rfl,h2⟩
  ·cases he
 | .bool,d::r,vs,x,r',h,he=>by
  simp only[jW]at he
  split at he
  ·rename_i y hy; cases he; obtain⟨v,u,rfl,h1,h2⟩:=h.cons_inv; exact⟨[v],u,rfl,yF h1 hy rfl,h2⟩
  ·cases he
 | .str,d::r,vs,x,r',h,he=>by
  simp only[jW]at he
  split at he
  ·rename_i y hy; cases he; obtain⟨v,u,rfl,h1,h2⟩:=h.cons_inv; exact⟨[v],u,rfl,yF h1 hy rfl,h2⟩
  ·cases he
 | .sl e,d::r,vs,x,r',h,he=>by
  simp only[jW]at he
  split at he
  ·rename_i y hy; cases he; obtain⟨v,u,rfl,h1,h2⟩:=h.cons_inv; exact⟨[v],u,rfl,yF h1 hy rfl,h2⟩
  ·cases he
 | .nil,ds,vs,x,r,h,he=>by simp only[jW]at he; cases he; exact⟨[],vs,rfl,.nil,h⟩
 | .cons a b,ds,vs,x,r,h,he=>by
  simp only[jW]at he
  split at he
  ·rename_i y r' hy
   split at he
   ·rename_i z r'' hz
    cases he
    obtain⟨c1,c2,rfl,h1,h2⟩:=sU a h hy
    obtain⟨c3,c4,rfl,h3,h4⟩:=sU b h2 hz
    exact⟨c1++c3,c4,by simp,.cons a b y z c1 c3 h1 h3,h4⟩
   ·cases he
  ·cases he
 | .expr,d::r,vs,x,r',h,he=>by
  simp only[jW]at he
  split at he
  ·cases he
  ·rename_i k hk
   split at he
   ·rename_i d1 d2 d3 d4 d5 r0
    split at he
    ·rename_i a n m s l ha hn hm hs hl
     cases he
     obtain⟨v,u,rfl,h0,t0⟩:=h.cons_inv
     obtain⟨v1,u1,rfl,h1,t1⟩:=t0.cons_inv
     obtain⟨v2,u2,rfl,h2,t2⟩:=t1.cons_inv
     obtain⟨v3,u3,rfl,h3,t3⟩:=t2.cons_inv
     obtain⟨v4,u4,rfl,h4,t4⟩:=t3.cons_inv
     obtain⟨v5,u5,rfl,h5,t5⟩:=t4.cons_inv
     refine⟨[v]++(([v1]++([v2]++([v3]++[])))++([v4]++([v5]++[]))),u5,by simp,.expr _ _ _ _ _ ?_,t5⟩
     exact .cons i64 _ k _ _ _ (yF h0 hk rfl) (.cons G0 _ (a,n,m,()) _ _ _ (.cons .bool _ a _ _ _ (yF h1 ha rfl) (.cons _ _ n _ _ _ (yF h2 hn rfl) (.cons _ _ m _ _ _ (yF h3 hm rfl) .nil)))
      (.cons .str _ s _ _ _ (yF h4 hs rfl) (.cons _ _ l _ _ _ (yF h5 hl rfl) .nil)))
    ·cases he
   ·cases he
theorem cV{τ:Ty}{d:D}{v:Value}{x:den τ}(h:RD κ d v)(hx:iu τ d=some x):RD κ (.zC τ x) v:=by
 have key:(∀ σ y,d≠.zC σ y)->(bif (d.isAgg==τ.isAgg) && !d.jl then(match jW τ (qo d)with | some (x,[])=>some x | _=>none)else none)=some x->RD κ (.zC τ x) v:=by
  intro hni hx
  cases hc:(d.isAgg==τ.isAgg) && !d.jl with
  | false=>grind
  | true =>
  rw[hc]at hx
  simp at hc
  obtain⟨z6h,BK⟩:=hc
  split at hx
  ·rename_i y hy
   cases hx
   obtain⟨c1,c2,he,h1,h2⟩:=sU τ (jM h BK) hy
   have e2:=h2.ql
   subst e2
   rw[List.append_nil]at he
   have hv:v=pk τ c1:=by
    rw[<- he]
    cases hd:d.isAgg with
    | true =>
     cases d<;>simp[D.isAgg]at hd
     cases h with | agg l vs hl ho h=>simp[pk,D.isAgg]at z6h ⊢; simp[<- z6h,Value.cells]
    | false =>
     simp only[pk,<- z6h]
     cases h<;>first | rfl | (rw[Js]; rfl) | (rename_i hu; rw[Gs hu]; rfl) | (rename_i σ y cs hc; exact absurd rfl (hni σ y)) | (simp at hd; done) | (simp at BK; done)
   rw[hv]
   exact .zC τ _ c1 h1
  ·cases hx
 cases d with
 | zC σ y=>obtain⟨rfl,rfl⟩:=qw hx; exact h
 | _=>exact key (λ_ _=>nofun) hx
end
end Go.AM
namespace Go.AM
set_option linter.unusedSectionVars false
variable [uy]
def qJ(P:Program)(s:Sem Next)(κ:KS)(d:Option D)(zy:St):Prop :=
 ∃ (κ':KS) (n:Next) (v:Value),s.run P κ.w=.ok n κ'.w/\(n=.value v\/(n=.skip/\v=undef))/\κ'.st=zy/\Inv κ'/\Ext κ κ'/\∀ d',d=some d'->RD κ' d' v
section
variable {c:Ctx} {κ:KS}
theorem qJ.pure{s:Sem Value}{d:D}{v:Value}(hi:Inv κ)(h:s.run c.P κ.w=.ok v κ.w)(hd:RD κ d v):qJ c.P (do Pure.pure (.value (<- s))) κ (some d) κ.st :=
 ⟨κ,.value v,v,by simp[h],.inl rfl,rfl,hi,Ext.refl κ,λ_ he=>by grind⟩
theorem qJ.val{d:Option D}{v:Value}(hi:Inv κ)(hd:∀ d',d=some d'->RD κ d' v):qJ c.P (Pure.pure (.value v)) κ d κ.st :=
 ⟨κ,.value v,v,rfl,.inl rfl,rfl,hi,Ext.refl κ,hd⟩
theorem fP{t n:Nat}(h:l8 c t=some n):∃ i,c.P.info? t=some i/\i.size=n:=by
 unfold l8 at h
 cases hi:c.P.info? t with
 | none=>grind
 | some i=>grind
theorem run_sizeOf{t n:Nat}(h:l8 c t=some n)(w:World):(sizeOf t).run c.P w=.ok n w:=by
 obtain⟨i,h1,h2⟩:=fP h
 simp[sizeOf,typeInfo,h1,h2]
theorem sb{t:Nat}{b:Bool}(h:Cz c t=some b)(w:World):(isAgg t).run c.P w=.ok b w:=by
 unfold Cz at h
 cases hu:c.P.underlying t with
 | none=>grind
 | some d =>
  simp only[isAgg,Sem.run_bind,run_underlying hu]
  cases d<;>simp[hu]at h<;>simp[<- h]
theorem u6{t:Nat}{τ:Ty}(h:kY c t τ=true):l8 c t=some τ.size/\Cz c t=some τ.isAgg:=by
 unfold kY at h
 simp at h
 obtain⟨⟨_,h1⟩,h2⟩:=h
 constructor
 ·split at h1
  ·rename_i n hn; rw[hn,Nat.eq_of_beq_eq_true h1]
  ·cases h1
 ·grind
theorem ZV{t:Nat}{τ:Ty}(h:kY c t τ=true):z4H τ t:=by
 unfold kY at h
 simp at h
 intro e
 subst e
 exact Nat.eq_of_beq_eq_true h.1.1
omit [uy]in
theorem ub(blk o j:Nat):(⟨blk,o,none⟩:Addr).add j=⟨blk,o+j,none⟩:=by unfold Addr.add; split<;>simp_all
theorem iR{t:Nat}{b:Bool}{n blk o:Nat}{cs:List Value}(ha:Cz c t=some b)(hn:l8 c t=some n)(hl:cs.length=n)(h1:b=false->n=1)
  (hc:∀ j v,cs[j]? = some v->κ.w.cell? ⟨blk,o+j,none⟩=some v) :
  (loadVar t ⟨blk,o,none⟩).run c.P κ.w=.ok (if b then .agg cs.toArray else cs.headD undef) κ.w:=by
 simp only[loadVar,Sem.run_bind,sb ha]
 cases b with
 | true =>
  simp[if_true,run_sizeOf hn]
  rw[<- hl,run_loadCells_list κ.w ⟨blk,o,none⟩ cs (λj v hj=>by rw[ub]; exact hc j v hj)]
  simp
 | false =>
  have:=h1 rfl
  subst this
  match cs,hl with
  | [v],_ =>
   have:=hc 0 v rfl
   simp at this
   simp[this]
theorem R1{t:Nat}{τ:Ty}{x:den τ}{cs:List Value}{blk o:Nat}(ht:kY c t τ=true)(h:Rc κ.w κ.ok τ x cs)
  (hc:∀ j v,cs[j]? = some v->κ.w.cell? ⟨blk,o+j,none⟩=some v):(loadVar t ⟨blk,o,none⟩).run c.P κ.w=.ok (pk τ cs) κ.w:=by
 obtain⟨h1,h2⟩:=u6 ht
 rw[iR (c:=c) h2 h1 h.len (λe=>V0 e) hc]
 rfl
theorem vF{t:T (Option D)}{st zy:St}{d:Option D}:(zR (.val t) st).leads (d,zy)↔t.leads d/\zy=st:=by
 simp only[zR,T.zM,T.leads]
 grind
theorem lY{k:St->T (Option D)}{st zy:St}{d:Option D}:(zR (.rd k) st).leads (d,zy)↔(k st).leads d/\zy=st:=by
 simp only[zR,T.zM,T.leads]
 grind
theorem zh{st:St}{r:Option D×St}:¬ (zR bad st).leads r:=by nofun
theorem kS{x:D}{st zy:St}{d:Option D}:(zR (AM.val x) st).leads (d,zy)↔d=some x/\zy=st:=by
 rw[AM.val,vF]; simp only[T.leads]; exact⟨λh=>⟨h.1.symm,h.2⟩,λh=>⟨h.1.symm,h.2⟩⟩
theorem vZ{p:Prop}{x:D}{st zy:St}{d:Option D}:(zR (.val (.zx p (.ret (some x)))) st).leads (d,zy)↔p/\d=some x/\zy=st:=by
 rw[vF]; simp only[T.leads]
 grind
theorem Ul{x:Option D}{st zy:St}{d:Option D}(h:(zR (z2V x) st).leads (d,zy)):∃ y,x=some y/\d=some y/\zy=st:=by
 cases x with
 | none=>exact absurd h zh
 | some y=>rw[z2V,vF]at h; exact⟨y,rfl,h.1.symm,h.2⟩
theorem VU:∀ (τ:Ty) (x:den τ) {cs:List Value},qN κ (flat τ x) cs->Rc κ.w κ.ok τ x cs
 | .int k,x,cs,h=>by obtain⟨v,r,rfl,h1,h2⟩:=h.cons_inv; rw[h2.ql]; exact h1.vW rfl
 | .bool,x,cs,h=>by obtain⟨v,r,rfl,h1,h2⟩:=h.cons_inv; rw[h2.ql]; exact h1.vW rfl
 | .str,x,cs,h=>by obtain⟨v,r,rfl,h1,h2⟩:=h.cons_inv; rw[h2.ql]; exact h1.vW rfl
 | .sl e,x,cs,h=>by obtain⟨v,r,rfl,h1,h2⟩:=h.cons_inv; rw[h2.ql]; exact h1.vW rfl
 | .nil,x,cs,h=>by rw[h.ql]; exact .nil
 | .cons a b,x,cs,h=>by
  obtain⟨c1,c2,rfl,h1,h2⟩:=qN.Ic h
  exact .cons a b x.1 x.2 c1 c2 (VU a x.1 h1) (VU b x.2 h2)
 | .expr,.mk k (a,n,m,()) s l,cs,h=>by
  obtain⟨v,u,rfl,h0,t0⟩:=h.cons_inv
  obtain⟨v1,u1,rfl,h1,t1⟩:=t0.cons_inv
  obtain⟨v2,u2,rfl,h2,t2⟩:=t1.cons_inv
  obtain⟨v3,u3,rfl,h3,t3⟩:=t2.cons_inv
  obtain⟨v4,u4,rfl,h4,t4⟩:=t3.cons_inv
  obtain⟨v5,u5,rfl,h5,t5⟩:=t4.cons_inv
  rw[t5.ql]
  exact .expr _ _ _ _ _ (.cons i64 _ k _ _ _ (h0.vW rfl) (.cons G0 _ (a,n,m,()) _ _ _ (.cons .bool _ a _ _ _ (h1.vW rfl) (.cons (.sl u32) (.cons (.sl u32) .nil) n (m,()) [v2] ([v3]++[]) (h2.vW rfl) (.cons (.sl u32) .nil m () [v3] [] (h3.vW rfl) .nil)))
      (.cons .str _ s _ _ _ (h4.vW rfl) (.cons (.sl .expr) .nil l () [v5] [] (h5.vW rfl) .nil))))
theorem ME{t:Nat}{d r:D}{off:Nat}{vs:List Value}(h:EJ c t d off=some r)(hd:qN κ (qo d) vs)(pQ:∀ x∈qo d,x.one=true) :
  (∃ n,Cz c t=some true/\l8 c t=some n/\off+n<=vs.length/\RD κ r (.agg ((vs.drop off).take n).toArray)) \/
  (∃ v,Cz c t=some false/\vs[off]? = some v/\RD κ r v):=by
 unfold EJ at h
 split at h
 ·rename_i ha
  split at h
  ·cases h
  ·rename_i n hn
   refine .inl ⟨n,ha,hn,?_⟩
   cases hb:(Nat.beq off 0&&Nat.beq n (qo d).length&&d.zbd)with
   | true =>
    rw[hb]at h
    simp at h
    subst h
    simp only[Bool.and_eq_true]at hb
    obtain⟨⟨h1,h2⟩,h3⟩:=hb
    have e1:off=0:=Nat.eq_of_beq_eq_true h1
    have e2:n=(qo d).length:=Nat.eq_of_beq_eq_true h2
    subst e1
    have hl:=hd.1
    rw[e2,hl]
    refine⟨by omega,?_⟩
    simp
    cases d with
    | zC τ x =>
     have:=RD.zC τ x vs (VU τ x hd)
     simpa[pk,show τ.isAgg=true from h3]using this
    | agg l=>exact .agg l vs hl pQ hd.2
    | _=>cases h3
   | false =>
    rw[hb]at h
    split at h
    ·rename_i l hl
     cases h
     unfold Yo at hl
     cases hle:Nat.ble (off+n) (qo d).length with
     | false=>grind
     | true =>
      rw[hle]at hl
      cases hl
      have Kx:=Nat.le_of_ble_eq_true hle
      refine⟨by rw[<- hd.1]; exact Kx,?_⟩
      have ht:=(hd.drop off).take n
      exact .agg _ _ ht.1 (λx hx=>pQ x (List.mem_of_mem_drop (List.mem_of_mem_take hx))) ht.2
    ·cases h
 ·rename_i ha
  obtain⟨v,h1,h2⟩:=hd.get h
  grind
 ·cases h
theorem US{t:Nat}{d r:D}{off blk:Nat}{vs:List Value}(base:Nat)(h:EJ c t d off=some r)(hd:qN κ (qo d) vs)(pQ:∀ x∈qo d,x.one=true)
  (hc:∀ j v,vs[j]? = some v->κ.w.cell? ⟨blk,base+j,none⟩=some v):∃ v,(loadVar t ⟨blk,base+off,none⟩).run c.P κ.w=.ok v κ.w/\RD κ r v:=by
 rcases ME h hd pQ with⟨n,ha,hn,hle,hr⟩ | ⟨v,ha,hv,hr⟩
 ·refine⟨_,?_,hr⟩
  rw[iR (c:=c) (b:=true) (cs:=(vs.drop off).take n) ha hn (by grind) nofun]
  ·simp
  ·grind
 ·refine⟨v,?_,hr⟩
  simp only[loadVar,Sem.run_bind,sb ha]
  simp[hc off v hv]
theorem Inv.M1{κ:KS}(hi:Inv κ){b:Nat}{x:yg}(h:κ.st[b]? = some x):fb κ b x:=hi.blk b x h
theorem sV{blk:Nat}{cs:Array Value}{t:TypeId}{fz:Nat×Nat}(h:κ.w.heap[blk]? = some (.cells cs t fz))(o:Nat):κ.w.cell? ⟨blk,o,none⟩=cs[o]? := by
 simp[World.cell?,h]
theorem Nz{t:Nat}{x:Option D}{v:Value}{d:Option D}{zy:St}(hi:Inv κ)(hx:∀ y,x=some y->RD κ y v)(h:(zR (JU c t x) κ.st).leads (d,zy)) :
  qJ c.P (do Pure.pure (.value (<- Instr.loadAt t v))) κ d zy:=by
 unfold JU at h
 split at h
 ·rename_i τ y
  cases ht:kY c t τ with
  | false=>rw[ht]at h; exact absurd h zh
  | true =>
   rw[ht,cond_true,kS]at h
   obtain⟨rfl,rfl⟩:=h
   cases hx _ rfl with
   | xg _ _ cs blk off wU hr hc =>
    exact qJ.pure hi (by simp[Instr.loadAt,Instr.sureAddr,R1 ht hr hc]) (.zC τ y cs hr)
 ·rename_i b off
  rw[lY]at h
  obtain⟨h,rfl⟩:=h
  split at h
  ·rename_i d0 hb
   split at h
   ·rename_i r hr
    cases h
    cases hx _ rfl with
    | ptr _ _ blk n d1 hd hp =>
     obtain⟨mv,n',cs,T,g1,g2,g3,g4,g5⟩:=hi.blk b _ hb
     rw[hp]at g1
     cases g1
     obtain⟨v,h1,h2⟩:=US (c:=c) (blk:=blk) 0 hr g4 g5.1 (λj v hj=>by rw[sV g2]; simpa using hj)
     rw[Nat.zero_add]at h1
     exact qJ.pure hi (by simp[Instr.loadAt,Instr.sureAddr,h1]) h2
   ·exact h.elim
  ·exact h.elim
 ·rename_i b qK e idx off
  rw[lY]at h
  obtain⟨h,rfl⟩:=h
  split at h
  ·rename_i kG e' xs hb
   cases he:decide (e'=e)with
   | false=>rw[he]at h; exact h.elim
   | true =>
    rw[he,cond_true]at h
    have Rm:e'=e:=of_decide_eq_true he
    subst Rm
    obtain⟨⟨rfl,qD⟩,h⟩:=h
    split at h
    ·rename_i r hr
     cases h
     cases hx _ rfl with
     | uY _ _ _ _ _ blk o hold hp =>
      obtain⟨n,p1,rfl⟩:=hp xs hb qD
      obtain⟨jA,⟨Jn,_⟩ | ⟨mv,n',cs,T,g1,g2,g3,g4,gr,f,g5⟩⟩:=hi.blk b _ hb
      ·grind
      ·rw[p1]at g1
       cases g1
       have hg:xs.getD idx (zn e')=xs[idx]:=by simp[List.getD,List.getElem?_eq_getElem qD]
       rw[hg]at hr
       obtain⟨k1,k2⟩:=g5 idx qD
       obtain⟨v,h1,h2⟩:=US (c:=c) (blk:=blk) (idx*e'.size) hr (ru k1) (fQ _ _) (λj v hj=>by rw[sV g2]; exact k2 j v hj)
       exact qJ.pure hi (by simp[Instr.loadAt,Instr.sureAddr,h1]) h2
    ·exact h.elim
  ·exact h.elim
 ·exact absurd h zh
end
end Go.AM
namespace Go.AM
set_option linter.unusedSectionVars false
variable [uy]
section
variable {c:Ctx} {κ:KS}
theorem Bn{s f o n:Nat}(h:VW c s f=some (o,n)):∃ fs fd,c.P.underlying s=some (.struct fs)/\fs[f]? = some fd/\l8 c fd.type=some n/\n≠0/\fd.offset=o:=by
 unfold VW at h
 split at h
 ·rename_i fs hu
  split at h
  ·rename_i fd hf
   split at h
   ·rename_i m hm
    cases hb:Nat.beq m 0 with
    | true=>grind
    | false =>
     rw[hb]at h
     cases h
     refine⟨fs,fd,hu,hf,hm,?_,rfl⟩
     intro e
     subst e
     cases hb
   ·cases h
  ·cases h
 ·cases h
theorem pV{s f o n blk p:Nat}(h:VW c s f=some (o,n))(w:World) :
  (Instr.fieldAt s (.pointer (some ⟨blk,p,none⟩)) f).run c.P w=.ok (.pointer (some ⟨blk,p+o,none⟩)) w:=by
 obtain⟨fs,fd,h1,h2,h3,h4,h5⟩:=Bn h
 simp[Instr.fieldAt,run_underlying h1,h2,Instr.sureAddr,fieldPlace,run_sizeOf h3,h4,ub]
theorem J0:∀ (τ:Ty) (x:den τ) (n:Nat) {d:D} {o s:Nat} {cs:List Value},rq τ x n=some (d,o,s)->Rc κ.w κ.ok τ x cs ->
  ∃ (σ:Ty) (y:den σ) (c2:List Value),d=.xg σ y/\Rc κ.w κ.ok σ y c2/\s=σ.size/\∀ j v,c2[j]? = some v->cs[o+j]? = some v
 | .cons a b,x,0,d,o,s,cs,h,hr=>by
  simp only[rq]at h
  cases h
  obtain⟨c1,c2,rfl,h1,h2⟩:=hr.cons_inv
  grind
 | .cons a b,x,n+1,d,o,s,cs,h,hr=>by
  simp only[rq]at h
  split at h
  ·rename_i d' o' s' h'
   cases h
   obtain⟨c1,c2,rfl,h1,h2⟩:=hr.cons_inv
   obtain⟨σ,y,c3,e1,e2,e3,e4⟩:=J0 b x.2 n h' h2
   refine⟨σ,y,c3,e1,e2,e3,λj v hj => ?_⟩
   have:=h1.len
   grind
  ·cases h
 | .expr,.mk k (a,n,m,()) s l,i,d,o,z,cs,h,hr=>by
  obtain⟨c1,r1,rfl,h1,t1⟩:=hr.Cb.cons_inv
  obtain⟨c2,r2,rfl,h2,t2⟩:=t1.cons_inv
  obtain⟨c3,r3,rfl,h3,t3⟩:=t2.cons_inv
  obtain⟨c4,r4,rfl,h4,t4⟩:=t3.cons_inv
  have e4:=t4.ql
  subst e4
  have l2:c2.length=3:=h2.len
  obtain⟨v1,rfl⟩:=h1.single rfl
  obtain⟨v3,rfl⟩:=h3.single rfl
  obtain⟨v4,rfl⟩:=h4.single rfl
  match i,h with
  | 0,h=>simp only[rq]at h; cases h; exact⟨i64,_,_,rfl,h1,rfl,λj v hj=>by match j,hj with | 0,hj=>simpa using hj⟩
  | 1,h => 
   simp only[rq]at h; cases h
   refine⟨G0,_,_,rfl,h2,rfl,λj v hj => ?_⟩
   grind
  | 2,h =>
   simp only[rq]at h; cases h
   refine⟨.str,_,_,rfl,h3,rfl,λj v hj => ?_⟩
   grind
  | 3,h =>
   simp only[rq]at h; cases h
   refine⟨.sl .expr,_,_,rfl,h4,rfl,λj v hj => ?_⟩
   match j,hj with
   | 0,hj =>
    simp only[List.cons_append,List.nil_append,Nat.add_zero,List.getElem?_cons_succ]
    rw[List.getElem?_append_right (by omega),l2]; simpa using hj
  | n+4,h=>simp[rq]at h
 | .int _,_,_,_,_,_,_,h,_ | .bool,_,_,_,_,_,_,h,_ | .str,_,_,_,_,_,_,h,_ | .sl _,_,_,_,_,_,_,h,_ | .nil,_,_,_,_,_,_,h,_=>by simp[rq]at h
theorem Ug{s f:Nat}{x:Option D}{v:Value}{d:Option D}{zy:St}(hi:Inv κ)(hx:∀ y,x=some y->RD κ y v)(h:(zR (pN c s f x) κ.st).leads (d,zy)) :
  qJ c.P (do Pure.pure (.value (<- Instr.fieldAt s v f))) κ d zy:=by
 unfold pN at h
 split at h
 ·exact absurd h zh
 ·rename_i o n hf
  split at h
  ·rename_i τ y
   split at h
   ·rename_i d' o' n' BD
    cases hb:Nat.beq o o'&&Nat.beq n n' with
    | false=>rw[hb]at h; exact absurd h zh
    | true =>
     rw[hb,cond_true,kS]at h
     obtain⟨rfl,rfl⟩:=h
     simp only[Bool.and_eq_true]at hb
     have e1:o=o':=Nat.eq_of_beq_eq_true hb.1
     subst e1
     cases hx _ rfl with
     | xg _ _ cs blk off wU hr hc =>
      obtain⟨σ,z,c2,rfl,g1,g2,g3⟩:=J0 τ y f BD hr
      exact qJ.pure hi (pV hf κ.w) (.xg σ z c2 blk (off+o) wU g1 λj u hj=>by grind)
   ·exact absurd h zh
  ·rename_i b off
   obtain⟨rfl,rfl⟩:=h
   cases hx _ rfl with
   | ptr _ _ blk n d hd hp=>exact qJ.pure hi (pV hf κ.w) (.ptr b (off+o) blk n d hd hp)
  ·rename_i b qK e idx off
   obtain⟨rfl,rfl⟩:=h
   cases hx _ rfl with
   | uY _ _ _ _ _ blk p hold hp =>
    refine qJ.pure hi (pV hf κ.w) (.uY b qK e idx (off+o) blk (p+o) hold λxs h1 h2 => ?_)
    grind
  ·exact absurd h zh
theorem I3{s f:Nat}{x:Option D}{v:Value}{d:Option D}{zy:St}(hi:Inv κ)(hx:∀ y,x=some y->RD κ y v)(h:(zR (HF c s f x) κ.st).leads (d,zy)) :
  qJ c.P (do Pure.pure (.value (<- Instr.field s v f))) κ d zy:=by
 unfold HF at h
 split at h
 ·rename_i fs hu
  split at h
  ·rename_i fd hf
   split at h
   ·rename_i y
    obtain⟨r,hr,rfl,rfl⟩:=Ul h
    cases hag:y.dK with
    | false=>grind
    | true =>
    rw[hag,cond_true]at hr
    have hy:=hx _ rfl
    have ⟨vs,hv,hvs⟩:∃ vs,v=.agg vs/\qN κ (qo y) vs.toList:=by
     have Pp:=jM hy (by cases y<;>simp[D.dK,D.jl]at hag ⊢)
     cases hy<;>simp[D.dK]at hag
     ·rename_i τ z cs hc
      exact⟨cs.toArray,by simp[pk,hag],by simpa[pk,hag,Value.cells]using Pp⟩
     ·rename_i l vs hl ho hh
      exact⟨vs.toArray,rfl,by simpa[Value.cells]using Pp⟩
    subst hv
    rcases ME hr hvs (jN hy)with⟨n,ha,hn,hle,hrd⟩ | ⟨u,ha,hu',hrd⟩
    ·refine qJ.pure hi ?_ hrd
     simp only[Instr.field,Sem.run_bind,run_underlying hu,Result.andThen_ok,hf,asAgg,Sem.run_pure,part,sb ha,if_true,run_sizeOf hn]
     congr 2
     grind
    ·refine qJ.pure hi ?_ hrd
     have:vs[fd.offset]? = some u:=by simpa using hu'
     simp[Instr.field,run_underlying hu,hf,asAgg,part,sb ha,this]
   ·exact absurd h zh
  ·exact absurd h zh
 ·exact absurd h zh
theorem uU{t e:Nat}(h:iC c t=some e):c.P.underlying t=some (.slice e):=by
 unfold iC at h
 grind
theorem uF{x:Option D}{k:IntKind}{n:Int}{v:Value}(h:asInt x=some (k,n))(hx:∀ y,x=some y->RD κ y v):v=.int k n:=by
 unfold asInt at h
 split at h
 ·cases h; exact(hx _ rfl).gb
 ·cases h
theorem oG{x:Option D}{s:zd}{v:Value}(h:JT x=some s)(hx:∀ y,x=some y->RD κ y v):v=.string ⟨s.toArray⟩:=by
 unfold JT at h
 split at h
 ·cases h; exact(hx _ rfl).vo
 ·cases h
theorem sW{x:Option D}{b:Bool}{v:Value}(h:asBool x=some b)(hx:∀ y,x=some y->RD κ y v):v=.bool b:=by
 unfold asBool at h
 split at h
 ·cases h; exact(hx _ rfl).kt
 ·cases h
theorem VR{α:Type}{l:List α}{i:Nat}(h:i<l.length)(d:α):List.getD l i d=l[i]:=by grind
theorem pD{a:Ty}(x:den a):(vT x:Option (den a))=some x:=by simp[vT]
theorem DQ{w:World}{ok:Nat->Prop}:∀ (τ:Ty) (e:Ty) (n:Nat) (x:den τ) (cs:List Value) (i:Nat),BZ τ=some (e,n)->Rc w ok τ x cs->i<n ->
  ∃ c,Rc w ok e (rT e τ x i) c/\∀ j v,c[j]? = some v->cs[i*e.size+j]? = some v
 | .cons a b,e,n,x,cs,i,ht,hr,hi=>by
  obtain⟨c1,c2,rfl,h1,h2⟩:=hr.cons_inv
  have key:∀ m,(b=.nil/\m=0\/BZ b=some (a,m))->i<m+1->∃ c,Rc w ok a (rT a (.cons a b) x i) c/\∀ j v,c[j]? = some v->(c1++c2)[i*a.size+j]? = some v:=by
   intro m hm hi
   cases i with
   | zero =>
    refine⟨c1,by simp only[rT,pD]; exact h1,λj v hj => ?_⟩
    grind
   | succ i =>
    rcases hm with⟨rfl,rfl⟩ | hm
    ·omega
    ·obtain⟨c,g1,g2⟩:=DQ b a m x.2 c2 i hm h2 (by omega)
     refine⟨c,g1,λj v hj => ?_⟩
     have hl:=h1.len
     grind
  unfold BZ at ht
  split at ht
  ·cases ht; exact key 0 (.inl ⟨rfl,rfl⟩) (by omega)
  ·grind
 | .int _,_,_,_,_,_,ht,_,_=>by cases ht
 | .bool,_,_,_,_,_,ht,_,_=>by cases ht
 | .str,_,_,_,_,_,ht,_,_=>by cases ht
 | .sl _,_,_,_,_,_,ht,_,_=>by cases ht
 | .nil,_,_,_,_,_,ht,_,_=>by cases ht
 | .expr,_,_,_,_,_,ht,_,_=>by cases ht
theorem O7{t n e:Nat}(h:z7c c t=some (n,e)):c.P.underlying t=some (.array n e):=by
 unfold z7c at h
 grind
theorem KW{t:Nat}{x i:Option D}{k:IntKind}{n:Int}{v u:Value}{d:Option D}{zy:St}(hi:Inv κ)(hx:∀ y,x=some y->RD κ y v)(hy:∀ y,i=some y->RD κ y u)(Vm:asInt i=some (k,n))
  (h:(zR (Jr c t x n) κ.st).leads (d,zy)):qJ c.P (do Pure.pure (.value (<- Instr.indexAt t v u))) κ d zy:=by
 have hu':=uF Vm hy
 subst hu'
 unfold Jr at h
 split at h
 ·rename_i m et τ y ha
  have hu:=O7 ha
  split at h
  ·rename_i e m' L0
   cases ht:kY c et e&&Nat.beq m m' with
   | false=>rw[ht]at h; exact absurd h zh
   | true =>
    rw[ht,cond_true,vZ]at h
    simp only[Bool.and_eq_true]at ht
    have:=Nat.eq_of_beq_eq_true ht.2
    subst this
    obtain⟨⟨h0,h1⟩,rfl,rfl⟩:=h
    obtain⟨hs,_⟩:=u6 ht.1
    cases hx _ rfl with
    | xg _ _ cs blk off wU Eo hc =>
     obtain⟨cc,g1,g2⟩:=DQ τ e m y cs n.toNat L0 Eo (by omega)
     refine qJ.pure hi ?_ (.xg e _ cc blk (off+n.toNat*e.size) wU g1 λj v hj=>by grind)
     simp[Instr.indexAt,asIntOf,run_underlying hu,h0,h1,run_sizeOf hs,ub,Instr.sureAddr]
  ·exact absurd h zh
 ·exact absurd h zh
theorem JF{t:Nat}{x i:Option D}{v u:Value}{d:Option D}{zy:St}(hi:Inv κ)(hx:∀ y,x=some y->RD κ y v)(hy:∀ y,i=some y->RD κ y u)
  (h:(zR (oH c t x i) κ.st).leads (d,zy)):qJ c.P (do Pure.pure (.value (<- Instr.indexAt t v u))) κ d zy:=by
 unfold oH at h
 split at h
 ·rename_i k n het Vm
  exact KW hi hx hy Vm h
 ·rename_i et k n het Vm
  have hu:=uU het
  have hu':=uF Vm hy
  subst hu'
  split at h
  ·rename_i e l
   cases ht:kY c et e with
   | false=>rw[ht]at h; exact absurd h zh
   | true =>
    rw[ht,cond_true,vZ]at h
    obtain⟨⟨h0,h1⟩,rfl,rfl⟩:=h
    obtain⟨hs,_⟩:=u6 ht
    have qD:n.toNat<List.length l:=by omega
    rcases((hx _ rfl).vW rfl).Xx with⟨rfl,_⟩ | ⟨blk,off,cap,f,he,wU,vO,hh,hc⟩
    ·cases qD
    ·cases he
     rw[VR qD]
     refine qJ.pure hi ?_ (.xg e _ (f n.toNat) blk (off+n.toNat*e.size) wU (hh _ qD) λj v hj=>hc _ qD j v hj)
     simp[Instr.indexAt,asIntOf,run_underlying hu,h0,h1,run_sizeOf hs,ub]
  ·rename_i e l ne
   cases ht:kY c et e with
   | false=>rw[ht]at h; exact absurd h zh
   | true =>
    rw[ht,cond_true,vZ]at h
    obtain⟨⟨h0,h1⟩,rfl,rfl⟩:=h
    obtain⟨hs,_⟩:=u6 ht
    have qD:n.toNat<List.length l:=by omega
    cases hx _ rfl with
    | xr=>cases qD
    | tight _ _ _ blk off f um wU hh hc =>
     rw[VR qD]
     refine qJ.pure hi ?_ (.xg e _ (f n.toNat) blk (off+n.toNat*e.size) wU (hh _ qD) λj v hj=>hc _ qD j v hj)
     simp[Instr.indexAt,asIntOf,run_underlying hu,h0,h1,run_sizeOf hs,ub]
  ·rename_i b qK e off len
   cases ht:kY c et e with
   | false=>rw[ht]at h; exact absurd h zh
   | true =>
    rw[ht,cond_true,vZ]at h
    obtain⟨⟨h0,h1⟩,rfl,rfl⟩:=h
    obtain⟨hs,_⟩:=u6 ht
    cases hx _ rfl with
    | ms _ _ _ _ _ cap a hold vO ha mb hm =>
     cases a with
     | none=>grind
     | some p =>
      have hp:=mb p rfl
      obtain⟨blk,o,sp⟩:=p
      subst hp
      refine qJ.pure hi (v:=.pointer (some ⟨blk,o+n.toNat*e.size,none⟩)) ?_ (.uY b qK e (off+n.toNat) 0 blk _ hold λxs hb qD => ?_)
      ·simp[Instr.indexAt,asIntOf,run_underlying hu,h0,h1,run_sizeOf hs,ub]
      ·obtain⟨hle,⟨_,_,hv,_⟩ | ⟨mv,n',o',FP,h3,h4,h5,h6,h7⟩⟩:=hm xs hb
       ·cases hv
       ·grind
  ·exact absurd h zh
 ·exact absurd h zh
theorem OI(s:zd){i:Nat}(h:i<s.length):(⟨s.toArray⟩:ByteArray)[i]? = some s[i]:=by
 have jA:(⟨s.toArray⟩:ByteArray).size=s.length:=rfl
 rw[getElem?_pos _ _ (by grind)]
 rfl
theorem EI{t:Nat}{x i:Option D}{v u:Value}{d:Option D}{zy:St}(hi:Inv κ)(hx:∀ y,x=some y->RD κ y v)(hy:∀ y,i=some y->RD κ y u)
  (h:(zR (GQ c t x i) κ.st).leads (d,zy)):qJ c.P (do Pure.pure (.value (<- Instr.index t v u))) κ d zy:=by
 unfold GQ at h
 split at h
 ·rename_i k n s Vm hs hu
  have hu':=uF Vm hy
  subst hu'
  have hv:=oG hs hx
  subst hv
  obtain⟨⟨h0,h1⟩,rfl,rfl⟩:=h
  have qD:n.toNat<s.length:=by omega
  rw[VR qD]
  exact qJ.pure hi (by simp[Instr.index,asIntOf,run_underlying hu,h0,OI s qD]) RD.int
 ·exact absurd h zh
def Wy(κ:KS):Option (Option D)->Option Value->Prop
 | none,none=>True
 | some x,some v=>∀ y,x=some y->RD κ y v
 | _,_=>False
theorem Uf{d n:Int}{x:Option (Option D)}{v:Option Value}(h:Oa d x=some n)(hx:Wy κ x v):(x=none/\v=none/\n=d)\/(x.isSome/\∃ k,v=some (.int k n)):=by
 cases x with
 | none=>cases v with
  | none=>exact .inl ⟨rfl,rfl,by simpa[Oa]using h.symm⟩
  | some v=>exact hx.elim
 | some x=>cases v with
  | none=>exact hx.elim
  | some v =>
   simp only[Oa]at h
   split at h
   ·rename_i k i hk; cases h; exact .inr ⟨rfl,k,by rw[uF hk hx]⟩
   ·cases h
end
end Go.AM
namespace Go.AM
set_option linter.unusedSectionVars false
variable [uy]
section
variable {c:Ctx} {κ:KS}
theorem kL{P:Program}{isS:Bool}{len cap:Nat}{lo hi mx:Option Value}{l h:Int}{m:Nat}
  (hl:(lo=none/\l=0)\/∃ k,lo=some (.int k l)) (hh:(hi=none/\mx=none/\h=len)\/∃ k,hi=some (.int k h))
  (hm:(mx=none/\m=cap)\/∃ k,mx=some (.int k m)) (h0:0<=l) (h1:l<=h) (h2:h<=m) (h3:m<=cap) (w:World) :
  (Instr.sliceBounds isS len cap lo hi mx).run P w=.ok (l.toNat,h.toNat,m) w:=by
 have hh0:(0:Int)<=h:=by omega
 have Vv:l<=(h.toNat:Int):=by omega
 rcases hl with⟨rfl,rfl⟩ | ⟨k1,rfl⟩<;>rcases hm with⟨rfl,rfl⟩ | ⟨k3,rfl⟩<;>rcases hh with⟨rfl,hx,rfl⟩ | ⟨k2,rfl⟩ <;>
  first
   | (cases hx; done)
   | (simp[Instr.sliceBounds,run_sliceBound, *]; done)
   | (simp[Instr.sliceBounds,run_sliceBound, *]; rw[run_sliceBound _ _ _ _ _ h0 Vv]; rfl)
theorem DB(s:zd)(l h:Int):(⟨s.toArray⟩:ByteArray).extract l.toNat h.toNat=⟨(qz l h s).toArray⟩:=by
 apply ByteArray.ext
 simp[qz,List.drop_take]
theorem U9{n:Int}{x:Option (Option D)}{v:Option Value}(h:Oa 0 x=some n)(hx:Wy κ x v):(v=none/\n=0)\/∃ k,v=some (.int k n):=by
 rcases Uf h hx with⟨_,h1,h2⟩ | ⟨_,h1⟩
 ·grind
 ·grind
theorem GK{d n:Int}{x:Option (Option D)}{v:Option Value}(h:Oa d x=some n)(hx:Wy κ x v):(v=none/\n=d)\/∃ k,v=some (.int k n):=by
 rcases Uf h hx with⟨_,h1,h2⟩ | ⟨_,h1⟩
 ·grind
 ·grind
theorem Qv{v:Option Value}(h:Wy κ none v):v=none:=by cases v with | none=>rfl | some _=>exact h.elim
theorem sN{e:Ty}{l:List (den e)}{lo hi:Int}(h0:0<=lo)(h1:lo<=hi)(h2:hi<=(l.length:Int)) :
  (wk lo hi l).length=hi.toNat-lo.toNat/\∀ i (KG:i<(wk lo hi l).length),∃ h:lo.toNat+i<l.length,(wk lo hi l)[i]=l[lo.toNat+i]:=by
 have hlen:(wk lo hi l).length=hi.toNat-lo.toNat:=by simp[wk]; omega
 refine⟨hlen,λi KG=>⟨by omega,?_⟩⟩
 simp[wk]
theorem Ev{e:Ty}{l:List (den e)}{lo hi:Int}{blk off cap m:Nat}{f:Nat->List Value}(wU:κ.ok blk)
  (hh:∀ i (hi:i<l.length),Rc κ.w κ.ok e l[i] (f i)) (hc:∀ i,i<l.length->∀ j v,(f i)[j]? = some v->κ.w.cell? ⟨blk,off+i*e.size+j,none⟩=some v)
  (h0:0<=lo) (h1:lo<=hi) (h2:hi<=(l.length:Int)) (hm:hi<=(m:Int)) (vO:m<=cap) :
  (∀ i (KG:i<(wk lo hi l).length),Rc κ.w κ.ok e (wk lo hi l)[i] (f (lo.toNat+i))) /\
  (∀ i,i<(wk lo hi l).length->∀ j v,(f (lo.toNat+i))[j]? = some v ->
   κ.w.cell? ⟨blk,(if m=lo.toNat then off else off+lo.toNat*e.size)+i*e.size+j,none⟩=some v)/\(wk lo hi l).length<=m-lo.toNat:=by
 obtain⟨hl,hg⟩:=sN h0 h1 h2
 refine⟨λi KG => ?_,λi KG j v hj => ?_,by omega⟩
 ·obtain⟨h3,h4⟩:=hg i KG
  rw[h4]; exact hh _ h3
 ·obtain⟨h3,h4⟩:=hg i KG
  have:=hc _ h3 j v hj
  rw[if_neg (by omega)]
  rw[Nat.add_mul,<- Nat.add_assoc]at this
  exact this
theorem EV{t:Nat}{x:Option D}{lo hi mx:Option (Option D)}{v:Value}{vl vh vm:Option Value}{d:Option D}{zy:St}(hI:Inv κ)(hx:∀ y,x=some y->RD κ y v)
  (hlo:Wy κ lo vl) (hhi:Wy κ hi vh) (hmx:Wy κ mx vm)
  (h:(zR (HQ c t x lo hi mx) κ.st).leads (d,zy)):qJ c.P (do Pure.pure (.value (<- Instr.sliceAt t v vl vh vm))) κ d zy:=by
 unfold HQ at h
 split at h
 ·rename_i s
  obtain⟨s,rfl⟩:∃ s':zd,s=s':=⟨s,rfl⟩
  split at h
  ·rename_i l hh hu hl hh'
   rw[vZ]at h
   obtain⟨⟨h0,h1,h2⟩,rfl,rfl⟩:=h
   have hv:=(hx _ rfl).vo
   subst hv
   have e1:=Qv hmx
   subst e1
   refine qJ.pure hI ?_ RD.str
   have jA:(⟨s.toArray⟩:ByteArray).size=s.length:=rfl
   have hb:=kL (P:=c.P) (isS:=false) (len:=s.length) (cap:=s.length) (mx:=none) (m:=s.length) (U9 hl hlo)
    (fk (GK hh' hhi) (λh=>⟨h.1,rfl,h.2⟩) id) (.inl ⟨rfl,rfl⟩) h0 h1 h2 (Nat.le_refl _) κ.w
   simp only[Instr.sliceAt,Sem.run_bind,run_underlying hu,Result.andThen_ok,Instr.slice,Option.isSome_none,Bool.false_eq_true,if_false,jA,hb,DB]
   rfl
  ·exact absurd h zh
 ·rename_i e s
  split at h
  ·rename_i et l hh het hl hh'
   have hu:=uU het
   cases ht:kY c et e with
   | false=>rw[ht]at h; exact absurd h zh
   | true =>
    obtain⟨hs,_⟩:=u6 ht
    rw[ht,cond_true]at h
    split at h
    ·rw[vZ]at h
     obtain⟨⟨h0,h1,h2⟩,rfl,rfl⟩:=h
     have e1:=Qv hmx
     subst e1
     have KY:=U9 hl hlo
     have Kp:(vh=none/\(none:Option Value)=none/\hh=(s.length:Int))\/∃ k,vh=some (.int k hh):=fk (GK hh' hhi) (λh=>⟨h.1,rfl,h.2⟩) id
     rcases((hx _ rfl).vW rfl).Xx with⟨rfl,a0,he⟩ | ⟨blk,off,cap,f,he,wU,vO,P8,Fp⟩
     ·cases he
      simp only[List.length_nil,Int.cast_ofNat_Int]at h2
      have hb:=kL (P:=c.P) (isS:=true) (len:=0) (cap:=0) (mx:=none) (m:=0) KY Kp (.inl ⟨rfl,rfl⟩) h0 h1 h2 (Nat.le_refl _) κ.w
      have e0:l=0:=by omega
      have e2:hh=0:=by omega
      subst e0 e2
      refine qJ.pure hI (v:=.slice a0 0 0) ?_ (.mP rfl (.lp e a0))
      simp[Instr.sliceAt,run_underlying hu,Instr.slice,hb,run_sizeOf hs]
     ·cases he
      obtain⟨k1,k2,k3⟩:=Ev (lo:=l) (hi:=hh) (cap:=cap) (m:=cap) wU P8 Fp h0 h1 h2 (by omega) (Nat.le_refl _)
      have hb:=kL (P:=c.P) (isS:=true) (len:=s.length) (cap:=cap) (mx:=none) (m:=cap) KY Kp (.inl ⟨rfl,rfl⟩) h0 h1 (by omega) (Nat.le_refl _) κ.w
      have hlen:=(sN h0 h1 h2).1
      refine qJ.pure hI ?_ (.mP rfl (.sl e (wk l hh s) blk _ (cap-l.toNat) _ wU k3 k1 k2))
      simp only[Instr.sliceAt,Sem.run_bind,run_underlying hu,Result.andThen_ok,Instr.slice,hb,run_sizeOf hs,Sem.run_pure,hlen]
      congr 3
      split<;>simp[ub]
    ·split at h
     ·rename_i mx m km mi hm'
      cases hhs:hi.isSome with
      | false=>rw[hhs]at h; exact absurd h zh
      | true =>
      rw[hhs,cond_true,vZ]at h
      obtain⟨⟨h0,h1,rfl,h2⟩,rfl,rfl⟩:=h
      obtain⟨vm,rfl⟩:∃ u,vm=some u:=by cases vm with | none=>exact hmx.elim | some u=>exact⟨u,rfl⟩
      have hvm:=uF hm' hmx
      subst hvm
      have KY:=U9 hl hlo
      have Kp:(vh=none/\(some (Value.int km hh):Option Value)=none/\hh=(s.length:Int))\/∃ k,vh=some (.int k hh):=by
       rcases Uf hh' hhi with⟨g1,_⟩ | ⟨_,g⟩
       ·rw[g1]at hhs; cases hhs
       ·exact .inr g
      have em:((hh.toNat:Nat):Int)=hh:=by omega
      rcases((hx _ rfl).vW rfl).Xx with⟨rfl,a0,he⟩ | ⟨blk,off,cap,f,he,wU,vO,P8,Fp⟩
      ·cases he
       simp only[List.length_nil,Int.cast_ofNat_Int]at h2
       have hb:=kL (P:=c.P) (isS:=true) (len:=0) (cap:=0) (mx:=some (.int km hh)) (m:=hh.toNat) KY Kp (.inr ⟨km,by rw[em]⟩) h0 h1 (by omega) (by omega) κ.w
       have e0:l=0:=by omega
       have e2:hh=0:=by omega
       subst e0 e2
       refine qJ.pure hI (v:=.slice a0 0 0) ?_ (.xr e a0)
       simp[Instr.sliceAt,run_underlying hu,Instr.slice,hb,run_sizeOf hs]
      ·cases he
       obtain⟨k1,k2,k3⟩:=Ev (lo:=l) (hi:=hh) (cap:=cap) (m:=hh.toNat) wU P8 Fp h0 h1 h2 (by omega) (by omega)
       have hb:=kL (P:=c.P) (isS:=true) (len:=s.length) (cap:=cap) (mx:=some (.int km hh)) (m:=hh.toNat) KY Kp (.inr ⟨km,by rw[em]⟩) h0 h1 (by omega) (by omega) κ.w
       have hlen:=(sN h0 h1 h2).1
       refine qJ.pure hI ?_ (.tight e (wk l hh s) false blk _ _ nofun wU k1 k2)
       simp only[Instr.sliceAt,Sem.run_bind,run_underlying hu,Result.andThen_ok,Instr.slice,hb,run_sizeOf hs,Sem.run_pure,hlen]
       congr 3
       split<;>simp[ub]
     ·exact absurd h zh
  ·exact absurd h zh
 ·rename_i e s ne
  split at h
  ·rename_i et l hh het hl hh'
   have hu:=uU het
   cases ht:kY c et e with
   | false=>rw[ht]at h; exact absurd h zh
   | true =>
    obtain⟨hs,_⟩:=u6 ht
    rw[ht,cond_true,vZ]at h
    obtain⟨⟨h0,h1,h2⟩,rfl,rfl⟩:=h
    have e1:=Qv hmx
    subst e1
    have KY:=U9 hl hlo
    have Kp:(vh=none/\(none:Option Value)=none/\hh=(s.length:Int))\/∃ k,vh=some (.int k hh):=fk (GK hh' hhi) (λh=>⟨h.1,rfl,h.2⟩) id
    cases hx _ rfl with
    | xr _ a0 =>
     simp only[List.length_nil,Int.cast_ofNat_Int]at h2
     have hb:=kL (P:=c.P) (isS:=true) (len:=0) (cap:=0) (mx:=none) (m:=0) KY Kp (.inl ⟨rfl,rfl⟩) h0 h1 h2 (Nat.le_refl _) κ.w
     have e0:l=0:=by omega
     have e2:hh=0:=by omega
     subst e0 e2
     refine qJ.pure hI (v:=.slice a0 0 0) ?_ (.mP rfl (.lp e a0))
     simp[Instr.sliceAt,run_underlying hu,Instr.slice,hb,run_sizeOf hs]
    | tight _ _ _ blk off f um wU P8 Fp =>
     obtain⟨k1,k2,k3⟩:=Ev (lo:=l) (hi:=hh) (cap:=s.length) (m:=s.length) wU P8 Fp h0 h1 h2 (by omega) (Nat.le_refl _)
     have hb:=kL (P:=c.P) (isS:=true) (len:=s.length) (cap:=s.length) (mx:=none) (m:=s.length) KY Kp (.inl ⟨rfl,rfl⟩) h0 h1 (by omega) (Nat.le_refl _) κ.w
     have hlen:=(sN h0 h1 h2).1
     refine qJ.pure hI ?_ (.mP rfl (.sl e (wk l hh s) blk _ (s.length-l.toNat) _ wU k3 k1 k2))
     simp only[Instr.sliceAt,Sem.run_bind,run_underlying hu,Result.andThen_ok,Instr.slice,hb,run_sizeOf hs,Sem.run_pure,hlen]
     congr 3
     split<;>simp[ub]
  ·exact absurd h zh
 ·rename_i b qK e off len
  split at h
  ·rename_i et l hh het hl hh'
   have hu:=uU het
   cases ht:kY c et e with
   | false=>rw[ht]at h; exact absurd h zh
   | true =>
    obtain⟨hs,_⟩:=u6 ht
    rw[ht,cond_true,vZ]at h
    obtain⟨⟨h0,h1,h2⟩,rfl,rfl⟩:=h
    have e1:=Qv hmx
    subst e1
    have KY:=U9 hl hlo
    have Kp:(vh=none/\(none:Option Value)=none/\hh=(len:Int))\/∃ k,vh=some (.int k hh):=fk (GK hh' hhi) (λh=>⟨h.1,rfl,h.2⟩) id
    cases hx _ rfl with
    | ms _ _ _ _ _ cap a hold vO ha mb hm =>
     have hb:=kL (P:=c.P) (isS:=true) (len:=len) (cap:=cap) (mx:=none) (m:=cap) KY Kp (.inl ⟨rfl,rfl⟩) h0 h1 (by omega) (Nat.le_refl _) κ.w
     refine qJ.pure hI (v:=.slice (if cap=l.toNat then a else a.map (·.add (l.toNat*e.size))) (hh.toNat-l.toNat) (cap-l.toNat)) ?_ (.ms b qK e _ _ _ _ hold (by omega) ?_ ?_ ?_)
     ·simp only[Instr.sliceAt,Sem.run_bind,run_underlying hu,Result.andThen_ok,Instr.slice,hb,run_sizeOf hs,Sem.run_pure]
     ·intro hn
      split at hn
      ·have:=ha hn; omega
      ·cases a with | none=>have:=ha rfl; omega | some p=>cases hn
     ·intro p hp
      split at hp
      ·exact mb p hp
      ·cases a with
       | none=>cases hp
       | some q =>
        obtain⟨q1,q2,q3⟩:=q
        have:=mb _ rfl
        simp only at this
        subst this
        simp only[Option.map_some,ub,Option.some.injEq]at hp
        subst hp; rfl
     ·intro xs U6
      obtain⟨hle,⟨rfl,rfl,hv,hp⟩ | ⟨mv,n',o',FP,h3,h4,h5,h6,h7⟩⟩:=hm xs U6
      ·cases hv
       have e0:l=0:=by omega
       have e2:hh=0:=by omega
       subst e0 e2
       exact⟨by simp,.inl ⟨rfl,rfl,rfl,hp⟩⟩
      ·cases h4
       refine⟨by omega,.inr ?_⟩
       by_cases Xq:cap=l.toNat
       ·refine⟨mv,n',o',0,h3,?_,by omega,?_,.inl rfl⟩
        ·simp[Xq]
        ·have:(off+l.toNat+0)=off+cap:=by omega
         rw[this]; exact h6
       ·refine⟨mv,n',o'+l.toNat*e.size,cap-l.toNat,h3,?_,by omega,?_,.inr ?_⟩
        ·simp[Xq,ub]
        ·have:off+l.toNat+(cap-l.toNat)=off+cap:=by omega
         rw[this]; exact h6
        ·rcases h7 with h7 | h7
         ·omega
         ·rw[h7,Nat.add_mul]
  ·exact absurd h zh
 ·exact absurd h zh
end
end Go.AM
namespace Go.AM
set_option linter.unusedSectionVars false
variable [uy]
section
variable {c:Ctx} {κ:KS}
theorem pn(op:BinOp)(t:Nat)(x y:Operand)(k k':IntKind)(a b:Int)(P:Program)(w:World):(eqGuard op t x y (.int k a) (.int k' b)).run P w=.ok () w:=by
 unfold eqGuard; split<;>simp
theorem BI(op:BinOp)(t:Nat)(x y:Operand)(a b:ByteArray)(P:Program)(w:World):(eqGuard op t x y (.string a) (.string b)).run P w=.ok () w:=by
 unfold eqGuard; split<;>simp
theorem HV(op:BinOp)(t:Nat)(x y:Operand)(a b:Bool)(P:Program)(w:World):(eqGuard op t x y (.bool a) (.bool b)).run P w=.ok () w:=by
 unfold eqGuard; split<;>simp
theorem mf{k:IntKind}{n:Int}{st zy:St}{d:Option D}:(zR (ib k n) st).leads (d,zy)↔d=some (.zC (.int k) n)/\zy=st:=kS
theorem pJ{b:Bool}{st zy:St}{d:Option D}:(zR (bb b) st).leads (d,zy)↔d=some (.zC .bool b)/\zy=st:=kS
theorem I8{op:BinOp}{k:IntKind}{a b:Int}{d:Option D}{st zy:St}{t:Nat}(h:(zR (I9 op k a b) st).leads (d,zy))(hs:VO op=false) :
  ∃ y v,d=some y/\zy=st/\(binOp op t (.int k a) (.int k b)).run c.P κ.w=.ok v κ.w/\RD κ y v:=by
 cases op<;>simp only[I9]at h<;>try (exact absurd h zh)
 all_goals first
  | (rw[mf]at h; obtain⟨rfl,rfl⟩:=h; exact⟨_,_,rfl,rfl,by simp[binOp,Op.intArith,Op.intBits,rU],RD.int⟩)
  | (rw[pJ]at h; obtain⟨rfl,rfl⟩:=h; exact⟨_,_,rfl,rfl,by simp[binOp,Op.intCmp],RD.bool⟩)
  | (rw[vZ]at h; obtain⟨hb,rfl,rfl⟩:=h; exact⟨_,_,rfl,rfl,by simp[binOp,Op.intDiv,hb],RD.int⟩)
theorem Jf(s:zd):(⟨s.toArray⟩:ByteArray).toList=s:=by simp
theorem EN{op:BinOp}{a b:zd}{d:Option D}{st zy:St}{t:Nat}(h:(zR (FG op a b) st).leads (d,zy))(hs:VO op=false) :
  ∃ y v,d=some y/\zy=st/\(binOp op t (.string ⟨a.toArray⟩) (.string ⟨b.toArray⟩)).run c.P κ.w=.ok v κ.w/\RD κ y v:=by
 have jA:∀ s:zd,(⟨s.toArray⟩:ByteArray).size=s.length:=λ_=>rfl
 cases op<;>simp only[FG]at h<;>try (exact absurd h zh)
 case add =>
  rw[vZ]at h; obtain⟨hb,rfl,rfl⟩:=h
  refine⟨_,_,rfl,rfl,?_,RD.str⟩
  have e:(⟨a.toArray⟩++⟨b.toArray⟩:ByteArray)=⟨(cat a b).toArray⟩:=by
   rfl
  have hn:¬ (IntKind.i64.max<((a.length+b.length:Nat):Int)):=by
   have:IntKind.i64.max=9223372036854775807:=by decide
   omega
  simp only[binOp,Op.stringOp,jA,hn]
  rfl
 all_goals (rw[pJ]at h; obtain⟨rfl,rfl⟩:=h; exact⟨_,_,rfl,rfl,by simp[binOp,Op.stringOp,zi,strLt],RD.bool⟩)
theorem FX{P:Program}{t:Nat}(hu:P.underlying t=some .bool)(a b:Bool)(w:World):(Op.equal t (.bool a) (.bool b)).run P w=.ok (a==b) w:=by
 show(Op.equalIn (9999+1) t _ _).run P w=_
 rw[Op.equalIn]
 simp[run_underlying hu]
theorem ES{a:Ty}{t:Nat}(h:z1j c a t=true):(∃ k,a=.int k/\c.P.underlying t=some (.int k))\/(a=.bool/\c.P.underlying t=some .bool)\/(a=.str/\c.P.underlying t=some .string):=by
 unfold z1j at h
 grind
theorem FN{P:Program}{t:Nat}{u:TypeDesc}(h:P.underlying t=some u)(hn:(match u with | .struct _ | .array _ _=>true | _=>false)=false)(w:World):(isAgg t).run P w=.ok false w:=by
 simp only[isAgg,Sem.run_bind,run_underlying h]
 cases u<;>first | rfl | cases hn
theorem cO{P:Program}{t:Nat}{u:TypeDesc}(h:P.underlying t=some u)(hn:(match u with | .struct _ | .array _ _=>true | _=>false)=false)(pre:List Value)(v:Value)(cs:List Value)(w:World) :
  (part t (pre++v::cs).toArray pre.length).run P w=.ok v w:=by
 simp only[part,Sem.run_bind,FN h hn]
 simp
theorem Qm{w:World}{ok:Nat->Prop}(dp:Nat):∀ (τ:Ty) (a b:den τ) (off:Nat) (fs:List Field) (pre JV cs cR:List Value),QB c τ off fs=true->Rc w ok τ a cs->Rc w ok τ b cR->pre.length=off->JV.length=off ->
  (Op.eqFields (dp+1) (pre++cs).toArray (JV++cR).toArray fs).run c.P w=.ok (eqT τ a b) w
 | .nil,_,_,_,fs,pre,JV,cs,cR,h,_,_,_,_=>by
  cases fs with
  | nil=>rfl
  | cons f fs=>cases h
 | .cons a r,x,y,off,fs,pre,JV,cs,cR,h,hx,hy,hp,hp'=>by
  cases fs with
  | nil=>cases h
  | cons f fs =>
   have h:(decide (f.name ≠ "_")&&(Nat.beq f.offset off&&(z1j c a f.type&&QB c r (off+1) fs)))=true:=h
   simp only[Bool.and_eq_true,decide_eq_true_eq]at h
   obtain⟨h1,h2,h3,h4⟩:=h
   have h2:=Nat.eq_of_beq_eq_true h2
   obtain⟨c1,c2,rfl,g1,g2⟩:=hx.cons_inv
   obtain⟨e1,e2,rfl,k1,k2⟩:=hy.cons_inv
   have ih:=λv v'=>Qm dp r x.2 y.2 (off+1) fs (pre++[v]) (JV++[v']) c2 e2 h4 g2 k2 (by simp[hp]) (by simp[hp'])
   have fin:∀ (v v':Value) (q:Bool),c1=[v]->e1=[v']->(part f.type (pre++v::c2).toArray f.offset).run c.P w=.ok v w->(part f.type (JV++v'::e2).toArray f.offset).run c.P w=.ok v' w->(Op.equalIn (dp+1) f.type v v').run c.P w=.ok q w->eqT a x.1 y.1=q ->
     (Op.eqFields (dp+1) (pre++(c1++c2)).toArray (JV++(e1++e2)).toArray (f::fs)).run c.P w=.ok (eqT (.cons a r) x y) w:=by
    rintro v v' q rfl rfl p1 p2 p3 p4
    show(Op.eqFields (dp+1) (pre++v::c2).toArray (JV++v'::e2).toArray (f::fs)).run c.P w=.ok (eqT a x.1 y.1&&eqT r x.2 y.2) w
    rw[Op.eqFields,if_pos h1]
    simp only[Sem.run_bind,p1,p2,p3,Result.andThen_ok]
    rw[p4]
    cases q with
    | false=>rfl
    | true =>
     grind
   subst hp
   rcases ES h3 with⟨k,rfl,hu⟩ | ⟨rfl,hu⟩ | ⟨rfl,hu⟩
   ·exact fin _ _ _ g1.gb k1.gb (by rw[h2]; exact cO hu rfl pre _ c2 w) (by rw[h2,<- hp']; exact cO hu rfl JV _ e2 w) (run_equalIn_int w dp _ k k _ _ hu) rfl
   ·exact fin _ _ _ g1.kt k1.kt (by rw[h2]; exact cO hu rfl pre _ c2 w) (by rw[h2,<- hp']; exact cO hu rfl JV _ e2 w) (run_equalIn_bool' w dp _ _ _ hu) rfl
   ·refine fin _ _ _ g1.vo k1.vo (by rw[h2]; exact cO hu rfl pre _ c2 w) (by rw[h2,<- hp']; exact cO hu rfl JV _ e2 w) (run_equalIn_string w dp _ _ _ hu) ?_
    rw[Jf,Jf]
    rfl
 | .int _,_,_,_,_,_,_,_,_,h,_,_,_,_=>by simp[QB]at h
 | .bool,_,_,_,_,_,_,_,_,h,_,_,_,_=>by simp[QB]at h
 | .str,_,_,_,_,_,_,_,_,h,_,_,_,_=>by simp[QB]at h
 | .sl _,_,_,_,_,_,_,_,_,h,_,_,_,_=>by simp[QB]at h
 | .expr,_,_,_,_,_,_,_,_,h,_,_,_,_=>by simp[QB]at h
theorem I0{op:BinOp}{t:Nat}{px py:Operand}{x y:Option D}{v u:Value}{d:Option D}{zy:St}(hI:Inv κ)(hx:∀ z,x=some z->RD κ z v)(hy:∀ z,y=some z->RD κ z u)
  (h:(zR (z0j c op t x y) κ.st).leads (d,zy)):qJ c.P (do Pure.pure (.value (<- (do eqGuard op t px py v u; binOp op t v u)))) κ d zy:=by
 unfold z0j at h
 split at h
 ·rename_i τ a σ b
  split at h
  ·rename_i b' hb
   unfold vT at hb
   split at hb
   ·rename_i e
    subst e
    injection hb with hb
    subst hb
    cases hg:σ.isAgg&&Kd c σ t with
    | false=>rw[hg]at h; exact absurd h zh
    | true =>
     rw[hg,cond_true]at h
     rw[Bool.and_eq_true]at hg
     obtain⟨hag,hso⟩:=hg
     unfold Kd at hso
     split at hso
     ·rename_i fs hu
      simp at hso
      obtain⟨f1,f2,f3⟩:=hso
      have hfo:c.P.fieldsOf t=fs:=by unfold Program.fieldsOf; rw[hu]
      cases hx _ rfl with
      | zC _ _ cs g1 =>
      cases hy _ rfl with
      | zC _ _ cR g2 =>
       have e1:pk σ cs=.agg cs.toArray:=by unfold pk; rw[if_pos hag]
       have e2:pk σ cR=.agg cR.toArray:=by unfold pk; rw[if_pos hag]
       have hr:=Qm (c:=c) 9998 σ a b 0 fs.toList [] [] cs cR f1 g1 g2 rfl rfl
       have hq:(Op.equalIn 10000 t (.agg cs.toArray) (.agg cR.toArray)).run c.P κ.w=.ok (eqT σ a b) κ.w:=by
        rw[show(10000:Nat)=9999+1 from rfl,run_equalIn_agg κ.w 9999 t _ _ (by grind) f2,hfo]
        exact hr
       rw[e1,e2]
       cases op<;>try (exact absurd h zh)
       ·rw[pJ]at h; obtain⟨rfl,rfl⟩:=h
        refine qJ.pure hI ?_ RD.bool
        simp only[Sem.run_bind,run_eqGuard_agg κ.w _ t px py _ _ f3,Result.andThen_ok,run_eql_struct,hq]
       ·rw[pJ]at h; obtain⟨rfl,rfl⟩:=h
        refine qJ.pure hI ?_ RD.bool
        simp only[Sem.run_bind,run_eqGuard_agg κ.w _ t px py _ _ f3,Result.andThen_ok,run_neq_struct,hq]
     ·cases hso
   ·cases hb
  ·exact absurd h zh
 ·exact absurd h zh
theorem RW{op:BinOp}{t:Nat}{px py:Operand}{x y:Option D}{v u:Value}{d:Option D}{zy:St}(hI:Inv κ)(hx:∀ z,x=some z->RD κ z v)(hy:∀ z,y=some z->RD κ z u)
  (h:(zR (FL c op t x y) κ.st).leads (d,zy)):qJ c.P (do Pure.pure (.value (<- (do eqGuard op t px py v u; binOp op t v u)))) κ d zy:=by
 unfold FL at h
 split at h
 ·rename_i k a k' b hk Bj
  have:=uF hk hx
  subst this
  have:=uF Bj hy
  subst this
  split at h
  ·rw[vZ]at h
   obtain⟨hb,rfl,rfl⟩:=h
   refine qJ.pure hI ?_ RD.int
   simp only[Sem.run_bind,pn,Result.andThen_ok,binOp,Op.shift,if_neg (show ¬ b<0 by omega)]
   rfl
  ·rw[vZ]at h
   obtain⟨hb,rfl,rfl⟩:=h
   refine qJ.pure hI ?_ RD.int
   simp only[Sem.run_bind,pn,Result.andThen_ok,binOp,Op.shift,if_neg (show ¬ b<0 by omega)]
   rfl
  ·rename_i n1 n2
   cases he:decide (k=k')with
   | false=>rw[he]at h; exact absurd h zh
   | true =>
    have Rm:=of_decide_eq_true he
    subst Rm
    rw[he,cond_true]at h
    obtain⟨y',v',rfl,rfl,h1,h2⟩:=I8 (c:=c) (κ:=κ) (t:=t) h (by cases op<;>first | rfl | (exact absurd rfl n1) | (exact absurd rfl n2))
    exact qJ.pure hI (by simp only[Sem.run_bind,pn,Result.andThen_ok,h1]) h2
 ·split at h
  ·rename_i a b ha hb
   have:=oG ha hx
   subst this
   have:=oG hb hy
   subst this
   cases hs:VO op with
   | true=>rw[hs]at h; exact absurd h zh
   | false =>
    rw[hs,cond_false]at h
    obtain⟨y',v',rfl,rfl,h1,h2⟩:=EN (c:=c) (κ:=κ) (t:=t) h hs
    exact qJ.pure hI (by simp only[Sem.run_bind,BI,Result.andThen_ok,h1]) h2
  ·split at h
   ·rename_i a b hu ha hb
    have:=sW ha hx
    subst this
    have:=sW hb hy
    subst this
    cases op<;>simp only[Ru]at h<;>try (exact absurd h zh)
    all_goals
     rw[pJ]at h; obtain⟨rfl,rfl⟩:=h
     refine qJ.pure hI ?_ RD.bool
     simp only[Sem.run_bind,HV,Result.andThen_ok,binOp,FX hu,Sem.run_pure]
   ·exact I0 hI hx hy h
theorem z2C{op:UnOp}{x:Option D}{v:Value}{d:Option D}{zy:St}(hI:Inv κ)(hx:∀ z,x=some z->RD κ z v)
  (h:(zR (S3 op x) κ.st).leads (d,zy)):qJ c.P (do Pure.pure (.value (<- Op.unary op v))) κ d zy:=by
 unfold S3 at h
 split at h
 ·split at h
  ·rename_i k n hk
   have:=uF hk hx
   subst this
   obtain⟨rfl,rfl⟩:=h
   exact qJ.pure hI (by rfl) RD.int
  ·exact absurd h zh
 ·split at h
  ·rename_i b hb
   have:=sW hb hx
   subst this
   obtain⟨rfl,rfl⟩:=h
   exact qJ.pure hI (by rfl) RD.bool
  ·exact absurd h zh
 ·split at h
  ·rename_i k n hk
   have:=uF hk hx
   subst this
   obtain⟨rfl,rfl⟩:=h
   exact qJ.pure hI (by rfl) RD.int
  ·exact absurd h zh
 ·exact absurd h zh
theorem z1V{t ty:Nat}{ts:Array Nat}{x:Option D}{v:Value}{vs:Array Value}{d:Option D}{zy:St}(hI:Inv κ)(hx:∀ z,x=some z->RD κ z v)(ht:ts[0]? = some t)(hv:vs[0]? = some v)
  (h:(zR (z0q c t x) κ.st).leads (d,zy)):qJ c.P (do Pure.pure (.value (<- Builtin.len_ ts ty vs))) κ d zy:=by
 unfold z0q at h
 split at h
 ·rename_i e hu
  have key:∀ (n:Nat) (a:Option Addr) (cap:Nat),v=.slice a n cap->d=some (.zC (.int .i64) (n:Int))->zy=κ.st->qJ c.P (do Pure.pure (.value (<- Builtin.len_ ts ty vs))) κ d zy:=by
   rintro n a cap rfl rfl rfl
   exact qJ.pure hI (by simp[Builtin.len_,ht,hv,run_underlying hu,goInt]) RD.int
  split at h
  ·rename_i e' l
   rw[mf]at h
   rcases((hx _ rfl).vW rfl).Xx with⟨rfl,a0,he⟩ | ⟨blk,off,cap,f,he,_⟩
   ·grind
   ·grind
  ·rename_i e' l ne
   rw[mf]at h
   cases hx _ rfl with
   | xr _ a0=>grind
   | tight=>grind
  ·rw[mf]at h
   cases hx _ rfl
   grind
  ·rw[mf]at h
   cases hx _ rfl
   grind
  ·exact absurd h zh
 ·rename_i hu
  split at h
  ·rename_i s hs
   have:=oG hs hx
   subst this
   obtain⟨rfl,rfl⟩:=h
   have jA:(⟨s.toArray⟩:ByteArray).size=s.length:=rfl
   exact qJ.pure hI (by simp only[Builtin.len_,ht,hv,Sem.run_bind,run_underlying hu,Result.andThen_ok,goInt,jA,Sem.run_pure]) RD.int
  ·exact absurd h zh
 ·exact absurd h zh
theorem Iu{f:Int->Int->Int}{g:Value->Value->Sem Value}{P:Program}(hg:∀ k k' a b,(g (.int k a) (.int k' b)).run P κ.w=.ok (.int k (f a b)) κ.w){x y:Option D}{v u:Value}{d:Option D}{zy:St}
  (hI:Inv κ) (hx:∀ z,x=some z->RD κ z v) (hy:∀ z,y=some z->RD κ z u) (h:(zR (Jt f [x,y]) κ.st).leads (d,zy)) :
  ∃ r,(g v u).run P κ.w=.ok r κ.w/\zy=κ.st/\∀ d',d=some d'->RD κ d' r:=by
 unfold Jt at h
 simp only at h
 split at h
 ·rename_i k a k' b hk Bj
  have:=uF hk hx
  subst this
  have:=uF Bj hy
  subst this
  cases he:decide (k=k')with
  | false=>rw[he]at h; exact absurd h zh
  | true =>
   rw[he,cond_true,mf]at h
   obtain⟨rfl,rfl⟩:=h
   exact⟨_,hg k k' a b,rfl,λd' he=>by cases he; exact RD.int⟩
 ·exact absurd h zh
theorem Bp{x:Option D}{i:Nat}{v:Value}{d:Option D}{zy:St}(hI:Inv κ)(hx:∀ z,x=some z->RD κ z v)
  (h:(zR (XQ x i) κ.st).leads (d,zy)):qJ c.P (do Pure.pure (.value (<- Instr.extract v i))) κ d zy:=by
 unfold XQ at h
 split at h
 ·rename_i vs
  obtain⟨y,hy,rfl,rfl⟩:=Ul h
  cases hx _ rfl with
  | gE _ us hl hh =>
   obtain⟨u,h1,h2⟩:=qN.get (⟨hl,hh⟩:qN κ vs us) hy
   exact qJ.pure hI (by simp[Instr.extract,h1]) h2
 ·exact absurd h zh
theorem dV:∀ {l:List (Option D)} {ds:List D},j5 l=some ds->l=ds.map some
 | [],ds,h=>by simp[j5]at h; subst h; rfl
 | some d::r,ds,h=>by
  simp only[j5]at h
  split at h
  ·rename_i l hl; cases h; simp[dV hl]
  ·cases h
 | none::r,ds,h=>by simp[j5]at h
theorem gH{l:List (Option D)}{ds:List D}{vs:List Value}(h:j5 l=some ds)(hl:l.length=vs.length)
  (hr:∀ (i:Nat) (d:D) (v:Value),l[i]? = some (some d)->vs[i]? = some v->RD κ d v):qN κ ds vs:=by
 have:=dV h
 subst this
 refine⟨by grind,λi h1 h2=>hr i _ _ ?_ (List.getElem?_eq_getElem h2)⟩
 simp
end
end Go.AM
namespace Go.AM
namespace T
variable {α β γ:Type}
theorem cu{t:T α}{x y:α}(h:t.leads x)(k:t.leads y):x=y:=by
 induction t with
 | ret a=>exact h.symm.trans k
 | ite b p q ip iq =>
  rcases h with⟨h1,h⟩ | ⟨h1,h⟩<;>rcases k with⟨k1,k⟩ | ⟨k1,k⟩
  ·grind
  ·grind
  ·grind
  ·grind
 | zx p t ih=>exact ih h.2 k.2
 | fail=>exact h.elim
theorem ze{t:T α}{f:α->T β}{x:β}:(t.bind f).leads x↔∃ a,t.leads a/\(f a).leads x:=by
 induction t with
 | ret a=>exact⟨λh=>⟨a,rfl,h⟩,λ⟨b,h,k⟩=>by cases h; exact k⟩
 | ite b p q ip iq =>
  constructor
  ·rintro(⟨h1,h⟩ | ⟨h1,h⟩)
   ·obtain⟨a,k1,k2⟩:=ip.1 h; exact⟨a,.inl ⟨h1,k1⟩,k2⟩
   ·obtain⟨a,k1,k2⟩:=iq.1 h; exact⟨a,.inr ⟨h1,k1⟩,k2⟩
  ·rintro⟨a,⟨h1,k1⟩ | ⟨h1,k1⟩,k2⟩
   ·exact .inl ⟨h1,ip.2 ⟨a,k1,k2⟩⟩
   ·exact .inr ⟨h1,iq.2 ⟨a,k1,k2⟩⟩
 | zx p t ih =>
  constructor
  ·rintro⟨h1,h⟩; obtain⟨a,k1,k2⟩:=ih.1 h; exact⟨a,⟨h1,k1⟩,k2⟩
  ·rintro⟨a,⟨h1,k1⟩,k2⟩; exact⟨h1,ih.2 ⟨a,k1,k2⟩⟩
 | fail=>exact⟨λh=>h.elim,λ⟨_,h,_⟩=>h.elim⟩
open Classical in
noncomputable def run:T α->Option α
 | ret a=>some a
 | ite b t e=>bif b then t.run else e.run
 | zx p t=>if p then t.run else none
 | fail=>none
@[simp] theorem z7(a:α):(ret a).run=some a:=rfl
@[simp] theorem zb1:(fail:T α).run=none:=rfl
theorem run_ite(b:Bool)(t e:T α):(ite b t e).run=if b=true then t.run else e.run:=by cases b<;>rfl
@[simp] theorem zk(t e:T α):(ite true t e).run=t.run:=rfl
@[simp] theorem zf(t e:T α):(ite false t e).run=e.run:=rfl
theorem zb{p:Prop}(h:p)(t:T α):(zx p t).run=t.run:=by simp only[run,if_pos h]
theorem za{b:Bool}(h:b=true)(t e:T α):(ite b t e).run=t.run:=by rw[h]; rfl
theorem z8{b:Bool}(h:b=false)(t e:T α):(ite b t e).run=e.run:=by rw[h]; rfl
theorem wZ{t:T α}{x:α}:t.run=some x↔t.leads x:=by
 induction t with
 | ret a=>simp[leads]
 | ite b p q ip iq=>cases b<;>simp[leads,ip,iq]
 | zx p t ih=>by_cases h:p<;>simp[run,leads,ih]
 | fail=>simp[leads]
theorem run_bind(t:T α)(f:α->T β):(t.bind f).run=t.run.bind λa=>(f a).run:=by
 induction t with
 | ret a=>rfl
 | ite b p q ip iq=>cases b<;>simp[bind,ip,iq]
 | zx p t ih=>by_cases h:p<;>simp[run,bind,h,ih]
 | fail=>rfl
theorem z6{t:T α}{a:α}(h:t.run=some a)(f:α->T β):(t.bind f).run=(f a).run:=by rw[run_bind,h]; rfl
section loop
variable {σ ρ:Type} (r:σ->T (σ⊕ρ))
inductive Iter:Nat->σ->ρ->Prop
 | done {s:σ} {x:ρ} (h:(r s).leads (.inr x)):Iter 0 s x
 | step {n:Nat} {s s':σ} {x:ρ} (h:(r s).leads (.inl s')) (k:Iter n s' x):Iter (n+1) s x
theorem Iter.det{r:σ->T (σ⊕ρ)}{n m:Nat}{s:σ}{x y:ρ}(h:Iter r n s x)(k:Iter r m s y):x=y:=by
 induction h generalizing m y with
 | done h =>
  cases k with
  | done k=>have:=cu h k; cases this; rfl
  | step k _=>have:=cu h k; cases this
 | step h _ ih =>
  cases k with
  | done k=>have:=cu h k; cases this
  | step k k2=>have:=cu h k; cases this; exact ih k2
open Classical in
noncomputable def loop (s:σ):T ρ:=if h:∃ x n,Iter r n s x then .ret h.choose else .fail
theorem fu{s:σ}{x:ρ}:(loop r s).leads x↔∃ n,Iter r n s x:=by
 unfold loop
 split
 ·rename_i h
  obtain⟨n,hn⟩:=h.choose_spec
  constructor
  ·intro hx; cases hx; exact⟨n,hn⟩
  ·rintro⟨m,hm⟩; exact hn.det hm
 ·rename_i h
  exact⟨λk=>k.elim,λ⟨n,hn⟩=>h ⟨x,n,hn⟩⟩
theorem wK{r:σ->T (σ⊕ρ)}(I:σ->Prop)(μ:σ->Nat)(f:σ->ρ)
  (h:∀ s,I s->(∃ s',(r s).run=some (.inl s')/\I s'/\μ s'<μ s/\f s'=f s)\/(r s).run=some (.inr (f s))) {s:σ} (hs:I s):(loop r s).run=some (f s):=by
 rw[wZ,fu]
 generalize hm:μ s=m
 induction m using Nat.strongRecOn generalizing s with
 | _ m ih =>
  rcases h s hs with⟨s',h1,h2,h3,h4⟩ | h1
  ·obtain⟨n,hn⟩:=ih (μ s') (by omega) h2 rfl
   exact⟨n+1,.step (wZ.1 h1) (h4▸hn)⟩
  ·exact⟨0,.done (wZ.1 h1)⟩
theorem qu{r:σ->T (σ⊕ρ)}{s s':σ}(h:(r s).run=some (.inl s')):(loop r s).run=(loop r s').run:=by
 have h':=wZ.1 h
 apply Option.ext
 intro x
 show(loop r s).run=some x↔(loop r s').run=some x
 rw[wZ,wZ,fu,fu]
 constructor
 ·rintro⟨n,hn⟩
  cases hn with
  | done k=>have:=cu h' k; cases this
  | step k k2=>have:=cu h' k; cases this; exact⟨_,k2⟩
 ·rintro⟨n,hn⟩; exact⟨n+1,.step h' hn⟩
theorem zL{r:σ->T (σ⊕ρ)}{s:σ}{x:ρ}(h:(r s).run=some (.inr x)):(loop r s).run=some x:=by
 rw[wZ,fu]; exact⟨0,.done (wZ.1 h)⟩
end loop
section fix
variable {σ ρ:Type} (b:(σ->T ρ)->σ->T ρ)
def D4:Nat->σ->T ρ
 | 0,_=>.fail
 | n+1,x=>b (D4 n) x
open Classical in
noncomputable def fix (x:σ):T ρ:=if h:∃ y n,∀ m,n<=m->(D4 b m x).leads y then .ret h.choose else .fail
theorem lT{x:σ}{y:ρ}:(fix b x).leads y↔∃ n,∀ m,n<=m->(D4 b m x).leads y:=by
 unfold fix
 split
 ·rename_i h
  obtain⟨n,hn⟩:=h.choose_spec
  constructor
  ·intro hx; cases hx; exact⟨n,hn⟩
  ·rintro⟨k,hk⟩; exact cu (hn (max n k) (by omega)) (hk (max n k) (by omega))
 ·rename_i h
  exact⟨λk=>k.elim,λ⟨n,hn⟩=>h ⟨y,n,hn⟩⟩
theorem nf{b:(σ->T ρ)->σ->T ρ}(I:σ->Prop)(μ:σ->Nat)(f:σ->ρ)
  (h:∀ x,I x->∀ g:σ->T ρ,(∀ y,I y->μ y<μ x->(g y).run=some (f y))->(b g x).run=some (f x)) {x:σ} (hx:I x):(fix b x).run=some (f x):=by
 rw[wZ,lT]
 refine⟨μ x+1,λm hm => ?_⟩
 induction m generalizing x with
 | zero=>omega
 | succ m ih =>
  rw[<- wZ]
  refine h x hx (D4 b m) λy hy qD => ?_
  rw[wZ]
  exact ih hy (by omega)
end fix
def QT:T α->Option Prop
 | ret _=>none
 | ite b t e=>match t.QT,e.QT with
  | none,none=>none
  | some p,none=>some (b=true->p)
  | none,some q=>some (b=false->q)
  | some p,some q=>some ((b=true->p)/\(b=false->q))
 | zx p t=>match t.QT with
  | none=>some p
  | some q=>some (p/\q)
 | fail=>some False
def val(d:α):T α->α
 | ret a=>a
 | ite b t e=>bif b then t.val d else e.val d
 | zx _ t=>t.val d
 | fail=>d
def flat(d:α)(t:T α):T α:=match t.QT with
 | none=>.ret (t.val d)
 | some p=>.zx p (.ret (t.val d))
def Vr(t:T α):Prop:=match t.QT with | none=>True | some p=>p
theorem UT(d:α)(t:T α)(x:α):t.leads x↔t.Vr/\t.val d=x:=by
 induction t with
 | ret a=>simp[leads,Vr,QT,val]
 | ite b p q ip iq =>
  cases b
  ·simp only[leads,val,iq]
   unfold Vr
   simp only[QT]
   grind
  ·simp only[leads,val,ip]
   unfold Vr
   simp only[QT]
   grind
 | zx p t ih =>
  simp only[leads,ih,val]
  unfold Vr
  simp only[QT]
  grind
 | fail=>simp[leads,Vr,QT]
end T
abbrev zI(x:Int):Int:=IntKind.wrap .i64 x
abbrev zV(x:Int):Int:=IntKind.wrap .u64 x
abbrev w6(x:Int):Int:=IntKind.wrap .u32 x
abbrev YF(x:Int):Int:=IntKind.wrap .u8 x
def xN(qK off len n:Nat):Prop:=qK=n/\off=0/\len=n
def q9(i:Int)(n:Nat):Prop:=0<=i/\i<(n:Int)
def mL(qK kG idx n:Nat):Prop:=qK=kG/\idx<n
def Yh(qK kG off len n m bytes:Nat):Prop:=qK=kG/\off=0/\len=n/\(n+m)*bytes<=140737488355328
def wW(l h:Int)(n:Nat):Prop:=0<=l/\l<=h/\h<=(n:Int)
def kz(l:zd):Nat->zd
 | 0=>[]
 | c+1=>l++kz l c
def UQ(u:Nat):zd:=if h:u<10 then[UInt8.ofNat (48+u)]else UQ (u / 10)++[UInt8.ofNat (48+u % 10)]
termination_by u
decreasing_by omega
def od(n:Int):zd:=if n<0 then 45::UQ n.natAbs else UQ n.toNat
def dZ:zd->zd->Int
 | [],sub=>if sub.isEmpty then 0 else -1
 | b::l,sub=>if sub.isPrefixOf (b::l)then 0 else if dZ l sub == -1 then -1 else dZ l sub+1
def Xa:zd->UInt8->Int
 | [],_ => -1
 | b::l,c=>if b==c then 0 else if Xa l c == -1 then -1 else Xa l c+1
def wR(s sep:zd):zd×zd×Bool:=if 0<=dZ s sep then(s.take (dZ s sep).toNat,s.drop ((dZ s sep).toNat+sep.length),true)else(s,[],false)
def ga(s p:zd):zd:=if List.isPrefixOf p s=true then s.drop p.length else s
def dL(s:zd):den (ep .bool 256):=Oz (e:=.bool) (λj=>s.contains (UInt8.ofNat j)) 256 0
def z4z(v v' o l n:Nat):Prop:=v=v'/\o+l<=n
def XV(n m:Int)(bytes:Nat):Prop:=0<=n/\n<=m/\m*bytes<=140737488355328/\m<=140737488355328
def nth{α:Type}(l:List α)(i:Int)(d:α):α:=List.getD l i.toNat d
def kX{α:Type}(l:List α)(i:Nat)(d:α):α:=List.getD l i d
def zt(s:zd)(i:Int):Int:=((List.getD s i.toNat 0).toNat:Int)
def tu(k:IntKind)(x y:Int):Int:=rU k (· &&& ·) x y
def ZQ(k:IntKind)(x y:Int):Int:=rU k (· ||| ·) x y
def EZ(k:IntKind)(x y:Int):Int:=rU k (· ^^^ ·) x y
theorem xG{l h:Int}{n:Nat}:wW l h n↔0<=l/\l<=h/\h<=(n:Int):=by rfl
def z47(l:List Int):T (zd×Unit):=.zx ((∀ n∈l,(0:Int)<=n/\n<256)/\List.length l<=140737488355328) (.ret (qQ l,()))
end Go.AM
namespace Go.AM
def C8(b:UInt8):List zd->List zd
 | []=>[[b]]
 | x::y=>(b::x)::y
def vf(c:UInt8):zd->List zd
 | []=>[[]]
 | b::r=>if b=c then[]::vf c r else C8 b (vf c r)
def xP(c:UInt8):zd->zd->List zd
 | cur,[]=>if cur=[]then[]else[cur]
 | cur,b::r=>if b=c then(if cur=[]then xP c [] r else cur::xP c [] r)else xP c (cur++[b]) r
def c6:zd->zd->Int
 | [],_ => -1
 | b::l,chars=>if chars.contains b then 0 else if c6 l chars == -1 then -1 else c6 l chars+1
abbrev oI{A R:Type}(i:Int)(l:List A)(t:T R):T R:=.zx (q9 i l.length) t
abbrev oE{A R:Type}(l:List A)(t:T R):T R:=.zx (l.length=l.length) t
abbrev oC{A R:Type}(l:List A)(t:T R):T R:=.zx (xN l.length 0 l.length l.length) t
abbrev oM{R:Type}(a b:Nat)(t:T R):T R:=.zx (xN a 0 a b) (.zx (a=b) t)
abbrev oA{A R:Type}(l:List A)(k:Nat)(t:T R):T R:=.zx (Yh l.length l.length 0 l.length l.length 1 k) t
abbrev oK{R:Type}(a b:zd)(t:T R):T R:=.zx (a.length+b.length<=4611686018427387904) t
abbrev oZ{R:Type}(t:T R):T R:=.zx (xN 0 0 0 0) (.zx ((0:Nat)=0) t)
abbrev oV{A B C D E F R:Type}(a:List A)(b:List B)(c:List C)(d:List D)(e:List E)(f:List F)(t:T R):T R:=oC a (oC b (oC c (oC d (oC e (oC f t)))))
abbrev oW{A B C D E F R:Type}(a:List A)(b:List B)(c:List C)(d:List D)(e:List E)(f:List F)(t:T R):T R:=oE a (oE b (oE c (oE d (oE e (oE f t)))))
abbrev oY{A B C D E F R:Type}(a:List A)(b:List B)(c:List C)(d:List D)(e:List E)(f:List F)(t:T R):T R:=oV a b c d e f (oW a b c d e f t)
end Go.AM
namespace Go.AM
namespace T
variable {α β:Type}
attribute [simp] run_bind
@[simp] theorem yE(b:Bool)(t e:T α):(ite b t e).run=if b=true then t.run else e.run:=run_ite b t e
@[simp] theorem qA{i:Int}{n:Nat}(t:T α)(h1:0<=i)(h2:i<(n:Int)):(zx (q9 i n) t).run=t.run:=zb ⟨h1,h2⟩ t
@[simp] theorem kF{v v' i n:Nat}(t:T α)(h1:v=v')(h2:i<n):(zx (mL v v' i n) t).run=t.run:=zb ⟨h1,h2⟩ t
@[simp] theorem jZ{v v' o l n m b:Nat}(t:T α)(h1:v=v')(h2:o=0)(h3:l=n)(h4:(n+m)*b<=140737488355328):(zx (Yh v v' o l n m b) t).run=t.run:=zb ⟨h1,h2,h3,h4⟩ t
@[simp] theorem q8{v o l n:Nat}(t:T α)(h1:v=n)(h2:o=0)(h3:l=n):(zx (xN v o l n) t).run=t.run:=zb ⟨h1,h2,h3⟩ t
@[simp] theorem yq{l h:Int}{n:Nat}(t:T α)(h1:0<=l)(h2:l<=h)(h3:h<=(n:Int)):(zx (wW l h n) t).run=t.run:=zb ⟨h1,h2,h3⟩ t
@[simp] theorem run_mk{n m:Int}{b:Nat}(t:T α)(h1:0<=n)(h2:n<=m)(h3:m*b<=140737488355328)(h4:m<=140737488355328):(zx (XV n m b) t).run=t.run:=zb ⟨h1,h2,h3,h4⟩ t
@[simp] theorem z4t{v v' o l n:Nat}(t:T α)(h1:v=v')(h2:o+l<=n):(zx (z4z v v' o l n) t).run=t.run:=zb ⟨h1,h2⟩ t
@[simp] theorem vD{a b:Nat}(t:T α)(h:a=b):(zx (a=b) t).run=t.run:=zb h t
@[simp] theorem zr{a b:Nat}(t:T α)(h:a<=b):(zx (a<=b) t).run=t.run:=zb h t
@[simp] theorem jt{a b:Int}(t:T α)(h:a<=b):(zx (a<=b) t).run=t.run:=zb h t
@[simp] theorem vR{a b:Int}(t:T α)(h:a≠b):(zx (a≠b) t).run=t.run:=zb h t
@[simp] theorem zgE{A:Type}{i:Int}{l:List A}(t:T α)(h1:0<=i)(h2:i<(l.length:Int)):(oI i l t).run=t.run:=zb ⟨h1,h2⟩ t
@[simp] theorem z01{A:Type}(l:List A)(t:T α):(oE l t).run=t.run:=zb rfl t
@[simp] theorem SN{A:Type}(l:List A)(t:T α):(oC l t).run=t.run:=zb ⟨rfl,rfl,rfl⟩ t
@[simp] theorem z6X{a b:Nat}(t:T α)(h:a=b):(oM a b t).run=t.run:=(zb ⟨h,rfl,h⟩ _).trans (zb h t)
@[simp] theorem z7Z{A:Type}{l:List A}{k:Nat}(t:T α)(h:(l.length+1)*k<=140737488355328):(oA l k t).run=t.run:=zb ⟨rfl,rfl,rfl,h⟩ t
@[simp] theorem Rw{a b:zd}(t:T α)(h:a.length+b.length<=4611686018427387904):(oK a b t).run=t.run:=zb h t
@[simp] theorem zm(t:T α):(zx True t).run=t.run:=zb trivial t
end T
@[simp] theorem zA{x:Int}(h1 : -9223372036854775808<=x)(h2:x<=9223372036854775807):zI x=x:=IntWalk.i64_in x ⟨h1,h2⟩
@[simp] theorem JZ{x:Int}(h1:0<=x)(h2:x<=255):YF x=x:=IntWalk.u8_in x ⟨h1,h2⟩
@[simp] theorem sP{x:Int}(h1:0<=x)(h2:x<=4294967295):w6 x=x:=IntWalk.u32_in x ⟨h1,h2⟩
@[simp] theorem qy{x:Int}(h1:0<=x)(h2:x<=18446744073709551615):zV x=x:=IntWalk.u64_in x ⟨h1,h2⟩
theorem lX(x:Int):w6 x=x % 4294967296:=IntKind.wrap_u32 x
theorem CP{α:Type}(l:List α)(d:α){i:Int}(h0:0<=i)(hi:i<(l.length:Int)):l.drop i.toNat=nth l i d::l.drop (i+1).toNat:=by
 unfold nth
 have qD:i.toNat<l.length:=by omega
 have e:(i+1).toNat=i.toNat+1:=by omega
 rw[e,List.drop_eq_getElem_cons qD]
 simp[List.getD_eq_getElem?_getD,qD]
theorem RY{α:Type}(l:List α){i:Int}(hi:¬ i<(l.length:Int)):l.drop i.toNat=[]:=List.drop_eq_nil_of_le (by omega)
namespace T
variable {σ ρ α β:Type}
theorem Nk{r:σ->T (σ⊕ρ)}(l:List α)(d:α)(e:β->Int->σ)(I:β->List α->Prop)(f:List α->β->ρ)
  (step:∀ (b:β) (x:α) (xs:List α) (i:Int),0<=i->i<(l.length:Int)->nth l i d=x->I b (x::xs) ->
   (∃ b',(r (e b i)).run=some (.inl (e b' (i+1)))/\I b' xs/\f xs b'=f (x::xs) b)\/(r (e b i)).run=some (.inr (f (x::xs) b)))
  (done:∀ b,I b []->(r (e b (l.length:Int))).run=some (.inr (f [] b))) {b:β} (hI:I b l):(loop r (e b 0)).run=some (f l b):=by
 have key:∀ (xs:List α) (i:Nat) (b:β),l.drop i=xs->i<=l.length->I b xs->(loop r (e b (i:Int))).run=some (f xs b):=by
  intro xs
  induction xs with
  | nil =>
   intro i b hd hi hb
   have:i=l.length:=by have:=List.drop_eq_nil_iff.1 hd; omega
   subst this
   exact zL (done b hb)
  | cons x xs ih =>
   intro i b hd hi hb
   have qD:i<l.length:=by
    rcases Nat.lt_or_ge i l.length with h | h
    ·exact h
    ·rw[List.drop_eq_nil_of_le h]at hd; cases hd
   have yw:=CP l d (i:=(i:Int)) (by omega) (by omega)
   have e1:((i:Int)+1).toNat=i+1:=by omega
   simp only[Int.toNat_natCast,e1]at yw
   rw[hd]at yw
   obtain⟨h1,h2⟩:=List.cons.inj yw
   rcases step b x xs i (by omega) (by omega) (by rw[h1]) hb with⟨b',g1,g2,g3⟩ | g1
   ·rw[qu g1,<- g3]
    have:=ih (i+1) b' h2.symm (by omega) g2
    simpa using this
   ·exact zL g1
 exact key l 0 b (by simp) (Nat.zero_le _) hI
end T
end Go.AM