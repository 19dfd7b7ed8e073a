/-
  The abstract machine, part A: texts of our own, the same for each claim.
-/
import Derived.WalkKit
set_option linter.unusedVariables false
namespace Go.AM
theorem yE{a b c d:Prop}(h:a∨b)(f:a→c)(g:b→d):c∨d:=h.elim (fun x=>.inl (f x)) (fun x=>.inr (g x))
abbrev zh:=List UInt8
inductive Ty where
 | int (k:IntKind) | bool | str | sl (e:Ty) | nil | cons (a b:Ty) | expr
 deriving DecidableEq
inductive Expr where
 | mk (kind:Int) (num:Bool×List Int×List Int×Unit) (name:zh) (kids:List Expr)
def Expr.kind:Expr→Int | .mk k _ _ _=>k
def Expr.num:Expr→Bool×List Int×List Int×Unit | .mk _ n _ _=>n
def Expr.name:Expr→zh | .mk _ _ n _=>n
def Expr.kids:Expr→List Expr | .mk _ _ _ l=>l
@[reducible] def den:Ty→Type
 | .int _=>Int
 | .bool=>Bool
 | .str=>zh
 | .sl e=>List (den e)
 | .nil=>Unit
 | .cons a b=>den a×den b
 | .expr=>Expr
abbrev u32:Ty:=.int .u32
abbrev i64:Ty:=.int .i64
abbrev WA:Ty:=.cons .bool (.cons (.sl u32) (.cons (.sl u32) .nil))
abbrev pW:Ty:=.cons i64 (.cons WA (.cons .str (.cons (.sl .expr) .nil)))
def Expr.DE(e:Expr):den pW:=(e.kind,e.num,e.name,e.kids,())
def Expr.YN(x:den pW):Expr:=.mk x.1 x.2.1 x.2.2.1 x.2.2.2.1
def Ty.size:Ty→Nat
 | .int _ | .bool | .str | .sl _=>1
 | .nil=>0
 | .cons a b=>a.size+b.size
 | .expr=>6
def Ty.isAgg:Ty→Bool
 | .nil | .cons _ _ | .expr=>true
 | _=>false
def zA:(τ:Ty)→den τ
 | .int _=>(0:Int)
 | .bool=>false
 | .str=>([]:zh)
 | .sl e=>([]:List (den e))
 | .nil=>()
 | .cons a b=>(zA a,zA b)
 | .expr=>.mk 0 (false,[],[],()) [] []
inductive D where
 | zi (τ:Ty) (x:den τ)
 | tight (e:Ty) (l:List (den e)) (ne:Bool)
 | xb | jE | qQ | vr | vq
 | ptr (b off:Nat)
 | qK (τ:Ty) (x:den τ)
 | vM (b qs:Nat) (e:Ty) (idx off:Nat)
 | ms (b qs:Nat) (e:Ty) (off len:Nat)
 | xg (f:Nat) (cap:List D)
 | agg (cs:List D)
 | jY (vs:List D)
 | iface (t:Nat) (d:D)
 | pn
 | b6 (b T:Nat)
 | gz (T:Nat)
inductive ju where
 | dead
 | var (d:D)
 | arr (qs:Nat) (e:Ty) (xs:List (den e))
abbrev St:=List ju
inductive T(α:Type) where
 | ret (a:α)
 | ite (b:Bool) (t e:T α)
 | zj (p:Prop) (t:T α)
 | fail
namespace T
variable {α β:Type}
def bind:T α→(α→T β)→T β
 | ret a,k=>k a
 | ite b t e,k=>ite b (t.bind k) (e.bind k)
 | zj p t,k=>zj p (t.bind k)
 | fail,_=>fail
def tc:Option α→T α
 | some a=>ret a
 | none=>fail
def leads:T α→α→Prop
 | ret a,x=>a=x
 | ite b t e,x=>(b=true∧t.leads x)∨(b=false∧e.leads x)
 | zj p t,x=>p∧t.leads x
 | fail,_=>False
def wp(Q:α→Prop):T α→Prop
 | ret a=>Q a
 | ite b t e=>(b=true→t.wp Q)∧(b=false→e.wp Q)
 | zj p t=>p∧t.wp Q
 | fail=>False
end T
abbrev Fr:=List (Nat×Option D)
def Fr.get:Fr→Nat→Option D
 | [],_=>none
 | (t,d)::r,s=>bif Nat.beq t s then d else Fr.get r s
def Fr.put(fr:Fr)(dst:Option Nat)(d:Option D):Fr :=
 match dst with
 | some t=>(t,d)::fr
 | none=>fr
abbrev Kn:=List (Nat×Option Bool)
def Kn.get:Kn→Nat→Option Bool
 | [],_=>none
 | (t,b)::r,s=>bif Nat.beq t s then b else Kn.get r s
inductive V6 where
 | ret (ds:List D)
 | jq (d:D)
inductive rT where
 | rp (τ:Ty) | im (τ:Ty)
inductive om where
 | ty (τ:Ty) | rp (τ:Ty) | xg (f:Nat) (caps:List rT)
structure Sig where
 params:List om
 res:List Ty
structure Ctx where
 P:Program
 xid:Nat
 sig:Nat→List D→Option Sig
 fn:Nat→List D→St→T (V6×St)
 ro:Nat→Bool
 /-- Blocks that a call leaves as they are. -/
 free:Nat→List D→St→List Nat
 IH:∀ (g:Nat) (args:List D) (st:St) (rs:V6) (zu:St) (b:Nat),(fn g args st).leads (rs,zu)→b∈free g args st→zu[b]? = st[b]?
inductive Ex where
 | normal | exit (id:Nat) | ret | jq (d:D)
class Xt where
 u8:Nat
def S3[Xt](e:Ty)(t:Nat):Bool:=match e with
 | .int .u8=>Nat.beq t Xt.u8
 | _=>true
def Oq[Xt](e:Ty)(t:Nat):Prop:=e=.int .u8→t=Xt.u8
section ops
variable (c:Ctx)
variable [Xt]
def cR(t:Nat):Option Nat:=(c.P.info? t).map (·.size)
def fp(t:Nat):Option Nat:=(c.P.info? t).map (·.bytes)
def K0(t:Nat):Option Bool:=match c.P.underlying t with | some (.struct _) | some (.array _ _)=>some true | some _=>some false | none=>none
def gQ:List (Option Ty)→Option Ty
 | []=>some .nil
 | some a::r=>match gQ r with | some b=>some (.cons a b) | none=>none
 | none::_=>none
def Vz:Nat→Nat→Option Ty
 | 0,_=>none
 | n+1,t=>bif Nat.beq t c.xid then some .expr else
  match c.P.underlying t with
  | some (.int k)=>some (.int k)
  | some .bool=>some .bool
  | some .string=>some .str
  | some (.slice e)=>match Vz n e with | some a=>some (.sl a) | none=>none
  | some (.struct fs)=>gQ (fs.toList.map fun f=>Vz n f.type)
  | some (.array k e)=>gQ (List.replicate k (Vz n e))
  | _=>none
def jb(t:Nat)(τ:Ty):Bool:=S3 τ t&&(match cR c t with | some n=>Nat.beq n τ.size | none=>false)&&(match K0 c t with | some b=>b==τ.isAgg | none=>false)
def lh:Value→Option D
 | .int k n=>some (.zi (.int k) n)
 | .bool b=>some (.zi .bool b)
 | .string s=>some (.zi .str s.data.toList)
 | .slice none 0 0=>some .xb
 | .pointer none=>some .jE
 | .nilFunc=>some .vr
 | .nilIface=>some .qQ
 | .map none=>some .vq
 | _=>none
def vR:List (Option D)→Option (List D)
 | []=>some []
 | some d::r=>match vR r with | some l=>some (d::l) | none=>none
 | none::_=>none
def su:Value→Option D
 | .agg cs=>match vR (cs.toList.map lh)with | some l=>some (.agg l) | none=>none
 | v=>lh v
def flat:(τ:Ty)→den τ→List D
 | .int k,x=>[.zi (.int k) x]
 | .bool,x=>[.zi .bool x]
 | .str,x=>[.zi .str x]
 | .sl e,x=>[.zi (.sl e) x]
 | .nil,_=>[]
 | .cons a b,x=>flat a x.1++flat b x.2
 | .expr,x=>[.zi i64 x.kind,.zi .bool x.num.1,.zi (.sl u32) x.num.2.1,.zi (.sl u32) x.num.2.2.1,.zi .str x.name,.zi (.sl .expr) x.kids]
def zW:D→List D
 | .zi τ x=>flat τ x
 | .agg cs=>cs
 | .jY _=>[]
 | d=>[d]
def D.isAgg:D→Bool
 | .agg _=>true
 | _=>false
def D.gU:D→Bool
 | .zi τ _=>τ.isAgg
 | .agg _=>true
 | _=>false
def D.z1x:D→Bool
 | .zi τ _=>τ.isAgg
 | .agg _=>true
 | _=>false
def y5:List D→Option Nat
 | .gz T::_=>some T
 | .b6 _ T::_=>some T
 | _=>none
def D.typed:D→Option Nat
 | .agg l=>y5 l
 | _=>none
def eI(d d':D):Bool:=match d'.typed with
 | none=>true
 | some T=>match d.typed with | some T'=>Nat.beq T T' | none=>false
def D.vN:D→Bool
 | .jY _=>true
 | _=>false
def wS{a b:Ty}(x:den a):Option (den b):=if h:a=b then some (h▸x)else none
def hO(e:Ty):Nat→Ty
 | 0=>.nil
 | n+1=>.cons e (hO e n)
def US:Ty→Option (Ty×Nat)
 | .cons e r=>match r with
  | .nil=>some (e,1)
  | r=>match US r with
   | some (e',n)=>bif decide (e=e')then some (e,n+1)else none
   | none=>none
 | _=>none
def lF(e:Ty):(τ:Ty)→den τ→Nat→den e
 | .cons _ _,x,0=>match(wS x.1:Option (den e))with | some y=>y | none=>zA e
 | .cons _ b,x,i+1=>lF e b x.2 i
 | _,_,_=>zA e
def Dh{e:Ty}(f:Nat→den e):(n:Nat)→Nat→den (hO e n)
 | 0,_=>()
 | n+1,k=>(f k,Dh f n (k+1))
def bM(τ:Ty):D→Option (den τ)
 | .zi σ x=>wS x
 | .tight e l _=>wS (a:=.sl e) l
 | .xb=>match τ with | .sl e=>some ([]:List (den e)) | _=>none
 | _=>none
def uJ:(τ:Ty)→List D→Option (den τ×List D)
 | .int k,d::r=>match bM (.int k) d with | some x=>some (x,r) | none=>none
 | .bool,d::r=>match bM .bool d with | some x=>some (x,r) | none=>none
 | .str,d::r=>match bM .str d with | some x=>some (x,r) | none=>none
 | .sl e,d::r=>match bM (.sl e) d with | some x=>some (x,r) | none=>none
 | .nil,r=>some ((),r)
 | .cons a b,r=>match uJ a r with
  | some (x,r')=>match uJ b r' with | some (y,r'')=>some ((x,y),r'') | none=>none
  | none=>none
 | .expr,[]=>none
 | .expr,d::r=>match bM i64 d with
  | none=>none
  | some k=>match r with
   | d1::d2::d3::d4::d5::r' =>
    match bM .bool d1,bM (.sl u32) d2,bM (.sl u32) d3,bM .str d4,bM (.sl .expr) d5 with
    | some a,some n,some m,some s,some l=>some (Expr.mk k (a,n,m,()) s l,r')
    | _,_,_,_,_=>none
   | _=>none
 | _,[]=>none
def gP(τ:Ty)(d:D):Option (den τ) :=
 match d with
 | .zi σ x=>wS x
 | d=>bif (d.isAgg==τ.isAgg) && !d.vN then match uJ τ (zW d)with
   | some (x,[])=>some x
   | _=>none
  else none
def fY(st:St):D→T D
 | .ms b qs e off len=>match st[b]? with
  | some (.arr uZ e' xs)=>if h:e'=e then .zj (qs=uZ) (.ret (.zi (.sl e) (h▸((xs.take (off+len)).drop off:List (den e')))))else .fail
  | _=>.fail
 | d=>.ret d
def WN(st:St):List D→T (List D)
 | []=>.ret []
 | d::r=>(fY st d).bind fun x=>(WN st r).bind fun l=>.ret (x::l)
def snap(st:St):D→T D
 | .agg cs=>(WN st cs).bind fun l=>.ret (.agg l)
 | d=>fY st d
def pY(st:St)(τ:Ty)(d:D):T (den τ):=(snap st d).bind fun x=>.tc (gP τ x)
def Q9:D→Bool | .ms .. => true | _=>false
inductive yW where
 | val (t:T (Option D))
 | rd (k:St→T (Option D))
 | wr (k:St→T (Option D×St))
def val(d:D):yW:=.val (.ret (some d))
def LA(d:Option D):yW:=match d with | some d=>.val (.ret (some d)) | none=>.val .fail
def bad:yW:=.val .fail
def OB(t:Nat):Bool:=match c.P.underlying t with
 | some (.struct fs)=>match fs[0]? with
  | some fd=>match c.P.underlying fd.type with | some (.pointer e)=>Nat.beq e t | _=>false
  | none=>false
 | _=>false
def F8(t:Nat)(d:D):D:=match d with
 | .agg (.jE::r)=>bif OB c t then .agg (.gz t::r)else .agg (.jE::r)
 | d=>d
def ta(t:Nat):Option D:=match c.P.info? t with
 | some i=>match i.zero with | some z=>(match su z with | some d=>some (F8 c t d) | none=>none) | none=>none
 | none=>none
def XY(l:List D)(off n:Nat):Option (List D) :=
 bif Nat.ble (off+n) l.length then some ((l.drop off).take n)else none
def Yf(t:Nat)(d:D)(off:Nat):Option D :=
 match K0 c t with
 | some true=>match cR c t with
  | none=>none
  | some n=>bif (Nat.beq off 0)&&Nat.beq n (zW d).length&&d.z1x then some d
   else match XY (zW d) off n with | some l=>some (.agg l) | none=>none
 | some false=>(zW d)[off]?
 | none=>none
def JR(t:Nat)(d:D)(off:Nat)(x:D):Option D :=
 match cR c t with
 | none=>none
 | some n=>bif Nat.blt 0 n&&Nat.beq n (zW x).length&&Nat.ble (off+n) (zW d).length then
   bif Nat.beq n (zW d).length then some x
   else some (.agg ((zW d).take off++zW x++(zW d).drop (off+n)))
  else none
def Qm(t:Nat)(a:Option D):yW:=match a with
 | some (.qK τ x)=>bif jb c t τ then val (.zi τ x)else bad
 | some (.ptr b off)=>.rd fun st=>match st[b]? with
  | some (.var d)=>match Yf c t d off with | some r=>.ret (some r) | none=>.fail
  | _=>.fail
 | some (.vM b qs e idx off)=>.rd fun st=>match st[b]? with
  | some (.arr uZ e' xs)=>bif decide (e'=e)then
    .zj (qs=uZ∧idx<xs.length) (match Yf c t (.zi e' (xs.getD idx (zA e'))) off with | some r=>.ret (some r) | none=>.fail)
   else .fail
  | _=>.fail
 | _=>bad
def tX(t:Nat)(a:Option D)(v:Option D):yW:=match a,v with
 | some (.ptr b off),some x=>.wr fun st=>match st[b]? with
  | some (.var d)=>match JR c t d off x with | some r=>bif eI d r then .ret (none,st.set b (.var r))else .fail | none=>.fail
  | _=>.fail
 | some (.vM b qs e idx off),some x=>.wr fun st=>match st[b]? with
  | some (.arr uZ e' xs)=>bif decide (e'=e)then
    .zj (qs=uZ∧idx<xs.length) (match JR c t (.zi e' (xs.getD idx (zA e'))) off x with
     | some r=>match gP e' r with | some y=>.ret (none,st.set b (.arr uZ e' (xs.set idx y))) | none=>.fail
     | none=>.fail)
   else .fail
  | _=>.fail
 | _,_=>bad
def lA:(τ:Ty)→den τ→Nat→Option (D×Nat×Nat)
 | .cons a _,x,0=>some (.qK a x.1,0,a.size)
 | .cons a b,x,n+1=>match lA b x.2 n with | some (d,o,s)=>some (d,a.size+o,s) | none=>none
 | .expr,x,0=>some (.qK i64 x.kind,0,1)
 | .expr,x,1=>some (.qK WA x.num,1,3)
 | .expr,x,2=>some (.qK .str x.name,4,1)
 | .expr,x,3=>some (.qK (.sl .expr) x.kids,5,1)
 | _,_,_=>none
def tY(s f:Nat):Option (Nat×Nat):=match c.P.underlying s with
 | some (.struct fs)=>match fs[f]? with
  | some fd=>match cR c fd.type with | some n=>bif Nat.beq n 0 then none else some (fd.offset,n) | none=>none
  | none=>none
 | _=>none
def iH(s f:Nat)(a:Option D):yW:=match tY c s f with
 | none=>bad
 | some (o,n)=>match a with
  | some (.qK τ x)=>match lA τ x f with
   | some (d,o',n')=>bif Nat.beq o o'&&Nat.beq n n' then val d else bad
   | none=>bad
  | some (.ptr b off)=>val (.ptr b (off+o))
  | some (.vM b qs e idx off)=>val (.vM b qs e idx (off+o))
  | _=>bad
def Vs(s f:Nat)(a:Option D):yW:=match c.P.underlying s with
 | some (.struct fs)=>match fs[f]? with
  | some fd=>match a with
   | some d=>LA (bif d.gU then Yf c fd.type d fd.offset else none)
   | none=>bad
  | none=>bad
 | _=>bad
def asInt:Option D→Option (IntKind×Int)
 | some (.zi (.int k) n)=>some (k,n)
 | _=>none
def ZB:Option D→Option zh
 | some (.zi .str s)=>some s
 | _=>none
def asBool:Option D→Option Bool
 | some (.zi .bool b)=>some b
 | _=>none
def cu(t:Nat):Option Nat:=match c.P.underlying t with | some (.slice e)=>some e | _=>none
def Pd(t:Nat):Option (Nat×Nat):=match c.P.underlying t with | some (.array n e)=>some (n,e) | _=>none
def ZC(t:Nat)(x:Option D)(i:Int):yW:=match Pd c t,x with
 | some (n,et),some (.qK τ y)=>match US τ with
  | some (e,m)=>bif jb c et e&&Nat.beq n m then .val (.zj (0≤i∧i<(n:Int)) (.ret (some (.qK e (lF e τ y i.toNat)))))else bad
  | none=>bad
 | _,_=>bad
def lQ(t:Nat)(x i:Option D):yW:=match cu c t,asInt i with
 | none,some (_,i)=>ZC c t x i
 | some et,some (_,i)=>match x with
  | some (.zi (.sl e) l)=>bif jb c et e then .val (.zj (0≤i∧i<(List.length l:Int)) (.ret (some (.qK e (List.getD l i.toNat (zA e))))))else bad
  | some (.tight e l _)=>bif jb c et e then .val (.zj (0≤i∧i<(List.length l:Int)) (.ret (some (.qK e (List.getD l i.toNat (zA e))))))else bad
  | some (.ms b qs e off len)=>bif jb c et e then .val (.zj (0≤i∧i<(len:Int)) (.ret (some (.vM b qs e (off+i.toNat) 0))))else bad
  | _=>bad
 | _,_=>bad
def VA(t:Nat)(x i:Option D):yW:=match asInt i,ZB x,c.P.underlying t with
 | some (_,i),some s,some .string=>.val (.zj (0≤i∧i<(List.length s:Int)) (.ret (some (.zi (.int .u8) ((List.getD s i.toNat 0).toNat:Int)))))
 | _,_,_=>bad
def CL(d:Int):Option (Option D)→Option Int
 | none=>some d
 | some x=>match asInt x with | some (_,i)=>some i | none=>none
def zS(l h:Int)(s:zh):zh:=(s.take h.toNat).drop l.toNat
def jf{e:Ty}(l h:Int)(s:List (den e)):List (den e):=(s.take h.toNat).drop l.toNat
def VP(t:Nat)(x:Option D)(lo hi mx:Option (Option D)):yW:=match x with
 | some (.zi .str s)=>match c.P.underlying t,mx,CL 0 lo,CL (List.length s) hi with
  | some .string,none,some l,some h=>.val (.zj (0≤l∧l≤h∧h≤(List.length s:Int)) (.ret (some (.zi .str (zS l h s)))))
  | _,_,_,_=>bad
 | some (.zi (.sl e) s)=>match cu c t,CL 0 lo,CL (List.length s) hi with
  | some et,some l,some h=>bif jb c et e then match mx with
    | none=>.val (.zj (0≤l∧l≤h∧h≤(List.length s:Int)) (.ret (some (.zi (.sl e) (jf l h s)))))
    | some m=>match asInt m with
     | some (_,m)=>bif hi.isSome then .val (.zj (0≤l∧l≤h∧h=m∧h≤(List.length s:Int)) (.ret (some (.tight e (jf l h s) false))))else bad
     | none=>bad
   else bad
  | _,_,_=>bad
 | some (.tight e s _)=>match cu c t,mx,CL 0 lo,CL (List.length s) hi with
  | some et,none,some l,some h=>bif jb c et e then .val (.zj (0≤l∧l≤h∧h≤(List.length s:Int)) (.ret (some (.zi (.sl e) (jf l h s)))))else bad
  | _,_,_,_=>bad
 | some (.ms b qs e off len)=>match cu c t,mx,CL 0 lo,CL len hi with
  | some et,none,some l,some h=>bif jb c et e then .val (.zj (0≤l∧l≤h∧h≤(len:Int)) (.ret (some (.ms b qs e (off+l.toNat) (h.toNat-l.toNat)))))else bad
  | _,_,_,_=>bad
 | _=>bad
def ib(k:IntKind)(n:Int):yW:=val (.zi (.int k) n)
def bb(b:Bool):yW:=val (.zi .bool b)
def fH(k:IntKind)(f:BitVec k.bits→BitVec k.bits→BitVec k.bits)(x y:Int):Int:=k.wrap (f (BitVec.ofInt k.bits x) (BitVec.ofInt k.bits y)).toNat
def xn(k:IntKind)(a b:Int):Int:=k.wrap (a*2 ^ (min b.toNat k.bits))
def qx(k:IntKind)(a b:Int):Int:=Int.fdiv a (2 ^ (min b.toNat k.bits))
def YI(op:BinOp)(k:IntKind)(a b:Int):yW:=match op with
 | .add=>ib k (k.wrap (a+b))
 | .sub=>ib k (k.wrap (a-b))
 | .mul=>ib k (k.wrap (a*b))
 | .quo=>.val (.zj (b≠0) (.ret (some (.zi (.int k) (k.wrap (a.tdiv b))))))
 | .rem=>.val (.zj (b≠0) (.ret (some (.zi (.int k) (a.tmod b)))))
 | .and=>ib k (fH k (· &&& ·) a b)
 | .or=>ib k (fH k (· ||| ·) a b)
 | .xor=>ib k (fH k (· ^^^ ·) a b)
 | .eql=>bb (a==b)
 | .neq=>bb (a != b)
 | .lss=>bb (decide (a<b))
 | .leq=>bb (decide (a≤b))
 | .gtr=>bb (decide (b<a))
 | .geq=>bb (decide (b≤a))
 | _=>bad
def zD(a b:zh):Bool:=a==b
def strLt(a b:zh):Bool:=Op.bytesLess a b
def cat(a b:zh):zh:=a++b
def YY(op:BinOp)(a b:zh):yW:=match op with
 | .add=>.val (.zj (a.length+b.length≤4611686018427387904) (.ret (some (.zi .str (cat a b)))))
 | .eql=>bb (zD a b)
 | .neq=>bb (!zD a b)
 | .lss=>bb (strLt a b)
 | .leq=>bb (strLt a b||zD a b)
 | .gtr=>bb (!(strLt a b||zD a b))
 | .geq=>bb (!strLt a b)
 | _=>bad
def Ec(op:BinOp)(a b:Bool):yW:=match op with
 | .eql=>bb (a==b)
 | .neq=>bb (!(a==b))
 | _=>bad
def tS:BinOp→Bool
 | .shl | .shr=>true
 | _=>false
def YA(op:BinOp)(t:Nat)(x y:Option D):yW:=match asInt x,asInt y with
 | some (k,a),some (k',b)=>match op with
  | .shl=>.val (.zj (0≤b) (.ret (some (.zi (.int k) (xn k a b)))))
  | .shr=>.val (.zj (0≤b) (.ret (some (.zi (.int k) (qx k a b)))))
  | op=>bif decide (k=k')then YI op k a b else bad
 | _,_=>match ZB x,ZB y with
  | some a,some b=>bif tS op then bad else YY op a b
  | _,_=>match c.P.underlying t,asBool x,asBool y with
   | some .bool,some a,some b=>Ec op a b
   | _,_,_=>bad
def V8(op:BinOp)(t:Nat)(x:Option D):yW:=match c.P.underlying t with
 | some (.interface _)=>match op,x with
  | .eql,some .qQ=>bb true
  | .eql,some (.iface _ _)=>bb false
  | .neq,some .qQ=>bb false
  | .neq,some (.iface _ _)=>bb true
  | _,_=>bad
 | _=>bad
def eV(x:Option D)(at':Nat)(ok:Bool):yW:=match c.P.underlying at' with
 | some (.interface _)=>bad
 | none=>bad
 | some _=>match x with
  | some (.iface t d)=>bif Nat.beq t at'&&ok then val (.jY [d,.zi .bool true])else bad
  | _=>bad
def Ym(op:BinOp)(t:Nat)(p:Operand)(x y:Option D):yW:=match p with
 | .const .nilIface=>V8 c op t x
 | _=>YA c op t x y
def IT(op:UnOp)(x:Option D):yW:=match op with
 | .neg=>match asInt x with | some (k,n)=>ib k (k.wrap (0-n)) | none=>bad
 | .not=>match asBool x with | some b=>bb (!b) | none=>bad
 | .xor=>match asInt x with | some (k,n)=>ib k (fH k (· ^^^ ·) (if k.signed then -1 else k.max) n) | none=>bad
 | _=>bad
def byteOf(n:Int):UInt8:=UInt8.ofNat n.toNat
def JI(e:Ty):D→Option (List (den e))
 | .zi σ y=>wS (a:=σ) (b:=.sl e) y
 | .tight e' y _=>wS (a:=.sl e') (b:=.sl e) y
 | .xb=>some []
 | _=>none
def j7(l:List Int):zh:=l.map byteOf
def s7(e:Nat)(x:Option D):yW:=match c.P.underlying e,x with
 | some (.int .u8),some d=>.rd fun st=>(fY st d).bind fun y=>match JI (.int .u8) y with
  | some l=>.ret (some (.zi .str (j7 l)))
  | none=>.fail
 | _,_=>bad
def convertOp(s t:Nat)(x:Option D):yW:=match c.P.underlying s,c.P.underlying t with
 | some (.slice e),some .string=>s7 c e x
 | some (.int _),some (.int k)=>match asInt x with | some (_,n)=>ib k (k.wrap n) | none=>bad
 | some .string,some .string=>match ZB x with | some s=>val (.zi .str s) | none=>bad
 | _,_=>bad
def E5(t:Nat)(x:Option D):yW:=match c.P.underlying t with
 | some (.slice _)=>match x with
  | some (.zi (.sl _) l)=>ib .i64 (List.length l)
  | some (.tight _ l _)=>ib .i64 (List.length l)
  | some .xb=>ib .i64 0
  | some (.ms _ _ _ _ len)=>ib .i64 (len:Nat)
  | _=>bad
 | some .string=>match ZB x with
  | some s=>ib .i64 (List.length s)
  | none=>bad
 | _=>bad
def ex(e:Ty){e':Ty}(xs:List (den e')):Option (List (den e)):=wS (a:=.sl e') (b:=.sl e) xs
def dH(e:Ty)(l ys:List (den e))(bytes:Nat)(st:St):T (Option D×St) :=
 .zj ((l.length+ys.length)*bytes≤140737488355328) (.ret (some (.ms st.length (l.length+ys.length) e 0 (l.length+ys.length)),st++[.arr (l.length+ys.length) e (l++ys)]))
def uT(e:Ty)(s:D)(ys:List (den e))(ne:Bool)(bytes:Nat)(st:St):T (Option D×St):=match s with
 | .xb=>bif ne then dH e [] ys bytes st else .ite ys.isEmpty (.ret (some s,st)) (dH e [] ys bytes st)
 | .tight e' l _=>match ex e l with
  | some l=>bif ne then dH e l ys bytes st else .ite ys.isEmpty (.ret (some s,st)) (dH e l ys bytes st)
  | none=>.fail
 | .ms b qs e' off len=>match st[b]? with
  | some (.arr uZ e'' xs)=>match ex e xs with
   | some xs=>bif decide (e'=e)then .zj (qs=uZ∧off=0∧len=xs.length∧(xs.length+ys.length)*bytes≤140737488355328)
     (.ret (some (.ms b (qs+ys.length) e 0 (len+ys.length)),st.set b (.arr (qs+ys.length) e (xs++ys))))else .fail
   | none=>.fail
  | _=>.fail
 | _=>.fail
def zeroOf(et:Nat)(e:Ty):Option (den e):=match ta c et with | some z=>gP e z | none=>none
def oQ(t:Nat)(s x:Option D):yW:=match cu c t with
 | none=>bad
 | some et=>match Vz c 20 et,fp c et with
  | some e,some bytes=>bif jb c et e&&Nat.blt 0 e.size&&Nat.blt 0 bytes&&(zeroOf c et e).isSome then match s,x with
    | some s,some x=>.wr fun st=>(fY st x).bind fun x=>match x with
     | .zi _ y=>match(wS y:Option (den (.sl e)))with
      | some ys=>uT e s ys false bytes st
      | none=>.fail
     | .tight _ y ne=>match ex e y with
      | some ys=>uT e s ys ne bytes st
      | none=>.fail
     | .xb=>uT e s [] false bytes st
     | _=>.fail
    | _,_=>bad
   else bad
  | _,_=>bad
def bytesOf(s:zh):List Int:=s.map fun b=>((b.toNat:Nat):Int)
def mP(t t':Nat)(s x:Option D):yW:=match cu c t with
 | none=>bad
 | some et=>match Vz c 20 et,fp c et,c.P.underlying t' with
  | some (.int .u8),some bytes,some .string=>bif jb c et (.int .u8)&&Nat.blt 0 bytes&&(zeroOf c et (.int .u8)).isSome then match s,x with
    | some s,some (.zi .str l)=>.wr fun st=>uT (.int .u8) s (bytesOf l) false bytes st
    | _,_=>bad
   else bad
  | _,_,_=>bad
def Gj(t:Nat)(n m:Option D):yW:=match cu c t,asInt n,asInt m with
 | some et,some (_,n),some (_,m)=>match Vz c 20 et,fp c et with
  | some e,some bytes=>match zeroOf c et e with
   | some z=>bif jb c et e&&Nat.blt 0 e.size then
     .wr fun st=>.zj (0≤n∧n≤m∧m*bytes≤140737488355328∧m≤140737488355328) (.ret (some (.ms st.length n.toNat e 0 n.toNat),st++[.arr n.toNat e (List.replicate n.toNat z)]))
    else bad
   | none=>bad
  | _,_=>bad
 | _,_,_=>bad
def Wm(e:Ty):Nat→List (Nat×Option D)→Option (List (den e))
 | _,[]=>some []
 | i,(j,some d)::r=>bif Nat.beq i j then match gP e d,Wm e (i+1) r with
   | some x,some l=>some (x::l)
   | _,_=>none
  else none
 | _,_=>none
def eZ(t n:Nat)(ps:List (Nat×Option D)):yW:=match cu c t with
 | none=>bad
 | some et=>match Vz c 20 et with
  | some e=>bif jb c et e&&Nat.beq n ps.length&&Nat.ble n 1000&&Nat.ble e.size 100&&(zeroOf c et e).isSome then match Wm e 0 ps with
    | some l=>bif Nat.beq n 0&&Nat.blt 0 e.size then .wr fun st=>.ret (some (.ms st.length 0 e 0 0),st++[.arr 0 e []])else val (.tight e l (!Nat.beq n 0))
    | none=>bad
   else bad
  | none=>bad
def bH(places:List (Nat×Nat)):List (Nat×Option D)→List D→Option (List D)
 | [],cells=>some cells
 | (i,some d)::r,cells=>match places[i]? with
  | some (off,n)=>bif !d.vN&&Nat.beq n (zW d).length&&Nat.ble (off+n) cells.length then
     bH places r (cells.take off++zW d++cells.drop (off+n))else none
  | none=>none
 | _,_=>none
def Uk(t:Nat)(ps:List (Nat×Option D)):yW:=match c.P.underlying t with
 | some (.struct fs)=>match ta c t,fs.toList.mapM (fun f=>(c.P.info? f.type).map fun i=>(f.offset,i.size))with
  | some (.agg z),some places=>match bH places ps z with
   | some l=>val (.agg l)
   | none=>bad
  | _,_=>bad
 | some (.array k e)=>match ta c t,c.P.info? e with
  | some (.agg z),some ie=>match bH ((List.range k).map fun i=>(i*ie.size,ie.size)) ps z with
   | some l=>val (.agg l)
   | none=>bad
  | _,_=>bad
 | _=>bad
def rJ(x:Option D)(i:Nat):yW:=match x with
 | some (.jY vs)=>LA vs[i]?
 | _=>bad
def jU:List D→D
 | [d]=>d
 | ds=>.jY ds
def Ty.scalar:Ty→Bool
 | .int _ | .bool | .str=>true
 | .cons a b=>a.scalar&&b.scalar
 | .nil=>true
 | _=>false
def mn:D→Bool
 | .zi τ _=>τ.scalar
 | _=>false
def fU(st:St)(τ:Ty):D→T D
 | .qK _ x=>match(wS x:Option (den τ))with | some y=>.ret (.qK τ y) | none=>.fail
 | .ptr b off=>match st[b]? with
  | some (.var d)=>match bif Nat.beq off 0 then gP τ d else none with | some y=>.ret (.qK τ y) | none=>.fail
  | _=>.fail
 | _=>.fail
def lI(st:St):rT→D→T D
 | .im τ,d=>(pY st τ d).bind fun x=>.ret (.zi τ x)
 | .rp τ,d=>fU st τ d
def yX(st:St):List rT→List D→T (List D)
 | [],[]=>.ret []
 | p::r,d::ds=>(lI st p d).bind fun x=>(yX st r ds).bind fun l=>.ret (x::l)
 | _,_=>.fail
def JM(st:St):om→D→T D
 | .ty τ,d=>(pY st τ d).bind fun x=>.ret (.zi τ x)
 | .rp τ,d=>fU st τ d
 | .xg f caps,.xg f' l=>bif Nat.beq f f' then(yX st caps l).bind fun l=>.ret (.xg f l)else .fail
 | _,_=>.fail
def fX(st:St):List om→List D→T (List D)
 | [],[]=>.ret []
 | p::r,d::ds=>(JM st p d).bind fun x=>(fX st r ds).bind fun l=>.ret (x::l)
 | _,_=>.fail
def Ri:D→Bool | .ptr .. => true | _=>false
def ZH:D→Bool
 | .agg cs=>cs.any Q9
 | .xg _ l=>l.any fun d=>Q9 d||Ri d
 | .ptr .. => true
 | d=>Q9 d
def L9(r:V6×St):T (Option D):=match r with
 | (.ret ds,[])=>.ret (some (jU ds))
 | _=>.fail
def mr(r:V6×St):T (Option D):=match r with
 | (.ret ds,[])=>bif ds.all mn then .ret (some (jU ds))else .fail
 | _=>.fail
def kX(g:Nat)(s:Sig)(args:List D):yW :=
 bif !(args.any ZH)then .val ((fX [] s.params args).bind fun l=>(c.fn g l []).bind L9)
 else .rd fun st=>(fX st s.params args).bind fun l=>(c.fn g l []).bind mr
def mw(g:Nat)(args:List D):yW:=.wr fun st=>(c.fn g args st).bind fun r=>match r.1 with
 | .ret ds=>.ret (some (jU ds),r.2)
 | .jq _=>.fail
def kg(g:Nat):Nat:=bif Nat.ble 1000000 g then g % 1000000 else g
def uK{α:Type}(g:Nat)(l caps:List α):List α:=bif Nat.ble 1000000 g then caps++l else l++caps
def gM(f:Option D)(args:List (Option D)):yW:=match f,vR args with
 | some (.xg g caps),some l=>match c.sig (kg g) (uK g l caps)with
  | some s=>kX c (kg g) s (uK g l caps)
  | none=>mw c (kg g) (uK g l caps)
 | _,_=>bad
def wk(a b:Int):Int:=if b<a then b else a
def xL(a b:Int):Int:=if a<b then b else a
def ZA(f:Int→Int→Int)(args:List (Option D)):yW:=match args with
 | [x,y]=>match asInt x,asInt y with
  | some (k,a),some (k',b)=>bif decide (k=k')then ib k (f a b)else bad
  | _,_=>bad
 | _=>bad
def jr{α:Type}(off len:Nat)(xs l:List α):List α:=xs.take off++l.take len++xs.drop (off+min len l.length)
def FA(k:IntKind)(b qs off len:Nat)(l:List Int)(st:St):T (Option D×St):=match st[b]? with
 | some (.arr uZ e' xs)=>match ex (.int k) xs with
  | some xs=>.zj (qs=uZ∧off+len≤List.length xs) (.ret (some (.zi i64 ((min len l.length:Nat):Int)),st.set b (.arr uZ (.int k) (jr off len xs l))))
  | none=>.fail
 | _=>.fail
def Gu(t:Nat)(s x:Option D):yW:=match cu c t with
 | some et=>match c.P.underlying et,cR c et,s,x with
  | some (.int k),some 1,some (.ms b qs (.int k') off len),some d=>bif decide (k'=k)then .wr fun st=>(fY st d).bind fun y=>match JI (.int k) y with
    | some l=>FA k b qs off len l st
    | none=>.fail
   else bad
  | _,_,_,_=>bad
 | none=>bad
def dq(b:Builtin)(ts:List Nat)(args:List (Option D)):yW:=match b,ts,args with
 | .len,t::_,x::_=>E5 c t x
 | .append,[t,t'],[s,x]=>bif Nat.beq t t' then oQ c t s x else mP c t t' s x
 | .copy,[t,_],[s,x]=>Gu c t s x
 | .min,_,args=>ZA wk args
 | .max,_,args=>ZA xL args
 | _,_,_=>bad
def vZ(fr:Fr):Operand→Option D
 | .tmp t=>fr.get t
 | .const v=>su v
 | .global _=>none
 | .func f=>bif Nat.blt f 1000000 then some (.xg f [])else none
def nT(x:Option D):yW:=match x with
 | some (.ptr b o)=>val (.ptr b o)
 | some (.qK τ x)=>val (.qK τ x)
 | some (.vM b v e i o)=>val (.vM b v e i o)
 | some (.xg f l)=>val (.xg f l)
 | _=>bad
def GD(x a b:Option D):yW:=match asBool x with
 | some x=>.val (.ite x (.ret a) (.ret b))
 | none=>bad
def iR(t:Nat)(x:Option D):yW:=match c.P.underlying t with
 | some (.interface _) | none=>bad
 | some _=>match x with | some d=>val (.iface t d) | none=>bad
def Fp(x:Option D):yW:=match x with
 | some d=>bif d.vN||d.typed.isSome then bad else .wr fun st=>.ret (some (.ptr st.length 0),st++[.var d])
 | none=>bad
def FJ(t:Nat)(x:Option D):yW:=match x with
 | some (.zi τ x)=>val (.qK τ x)
 | some d=>match Vz c 20 t with
  | some τ=>match gP τ d with | some x=>val (.qK τ x) | none=>bad
  | none=>bad
 | none=>bad
def Tg:Option Nat→Bool
 | some s=>c.ro s
 | none=>false
def Ik(t:Nat)(dst:Option Nat)(x:Option D):yW:=bif Tg c dst then FJ c t x else Fp x
def fJ(t:Nat):yW:=match ta c t with
 | some d=>.wr fun st=>.ret (some (.ptr st.length 0),st++[.var d])
 | none=>bad
def qz(ρ:Operand→Option D)(o:Oper):yW:=match o.op with
 | .move x | .assign x=>.val (.ret (ρ x))
 | .pick x a b=>GD (ρ x) (ρ a) (ρ b)
 | .alloc t=>fJ c t
 | .box t x=>Ik c t o.dst (ρ x)
 | .load t a=>Qm c t (ρ a)
 | .store t a v=>tX c t (ρ a) (ρ v)
 | .nilCheck x=>nT (ρ x)
 | .binOp op t x y _=>Ym c op t y (ρ x) (ρ y)
 | .typeAssert x _ t ok=>eV c (ρ x) t ok
 | .unOp op _ x=>IT op (ρ x)
 | .convert s t x=>convertOp c s t (ρ x)
 | .makeInterface t x=>iR c t (ρ x)
 | .makeFunc (.func f) first cap=>bif Nat.beq first.size 0&&Nat.blt f 1000000 then match vR (cap.toList.map ρ)with | some l=>val (.xg f l) | none=>bad
   else bif Nat.beq cap.size 0&&Nat.blt f 1000000 then match vR (first.toList.map ρ)with | some l=>val (.xg (f+1000000) l) | none=>bad else bad
 | .makeSlice t l m=>Gj c t (ρ l) (ρ m)
 | .slice t x lo hi mx=>VP c t (ρ x) (lo.map ρ) (hi.map ρ) (mx.map ρ)
 | .fieldAddr s x f=>iH c s f (ρ x)
 | .field s x f=>Vs c s f (ρ x)
 | .indexAddr t x i=>lQ c t (ρ x) (ρ i)
 | .index t x i=>VA c t (ρ x) (ρ i)
 | .extract x i=>rJ (ρ x) i
 | .build t ps=>Uk c t (ps.toList.map fun p=>(p.1,ρ p.2))
 | .buildSlice t n ps=>eZ c t n (ps.toList.map fun p=>(p.1,ρ p.2))
 | .call cl=>match cl.callee with
  | .builtin b=>dq c b cl.argTypes.toList (cl.args.toList.map ρ)
  | .value f=>gM c (ρ f) (cl.args.toList.map ρ)
  | .invoke _ _=>bad
 | _=>bad
def zG:yW→St→T (Option D×St)
 | .val t,st=>t.bind fun d=>.ret (d,st)
 | .rd k,st=>(k st).bind fun d=>.ret (d,st)
 | .wr k,st=>k st
end ops
end Go.AM
namespace Go.AM
def yW.kind:yW→Nat
 | .val _=>0
 | .rd _=>1
 | .wr _=>2
def vW(ops:Array Oper)(j:Nat):Option Nat:=match ops[j]? with | some o=>o.dst | none=>none
def DA:D:=.jY []
def vn(n:Nat):Option Nat→Bool
 | some t=>Nat.blt t n
 | none=>true
section
variable (c:Ctx)
variable [Xt]
def gW(kn:Kn):Operand→Option Bool
 | .tmp t=>kn.get t
 | .const (.bool b)=>some b
 | _=>none
def Zi(kn:Kn):Op→Option Bool
 | .move x | .assign x=>gW kn x
 | .pick x a b=>match gW kn x with
  | some true=>gW kn a
  | some false=>gW kn b
  | none=>none
 | _=>none
def fW(kn:Kn)(fr:Fr)(o:Oper):yW:=match o.op with
 | .pick x a b=>match gW kn x with
  | some true=>.val (.ret (vZ fr a))
  | some false=>.val (.ret (vZ fr b))
  | none=>qz c (vZ fr) o
 | _=>qz c (vZ fr) o
def QD(kn:Kn)(dst:Option Nat)(b:Option Bool):Kn:=match dst with | some t=>(t,b)::kn | none=>kn
inductive RK where
 | z (k:Nat) | rd (b:Nat) | wr (free:List Nat) | up (b:Nat)
def RK.base:RK→Nat
 | .z k=>k
 | .rd _=>1
 | .wr _=>2
 | .up _=>2
def others(n:Nat)(l:List Nat):List Nat:=(List.range n).filter fun b => !(l.any (Nat.beq b))
def Rk(d:Option D):Option Nat:=match d with
 | some d=>match d with
  | .ptr b _=>some b
  | .vM b _ _ _ _=>some b
  | _=>none
 | none=>none
def BA(bi:Builtin)(l:List (Option D)):RK:=match bi with
 | .append=>match l with | [some (.ms b _ _ _ _),some x]=>bif Q9 x then .z 2 else .up b | _=>.z 2
 | _=>.z 2
def w7(ρ:Operand→Option D)(st:St)(o:Oper):RK:=match(qz c ρ o).kind with
 | 1=>match o.op with
  | .load _ a=>match Rk (ρ a)with | some b=>.rd b | none=>.z 1
  | _=>.z 1
 | 2=>match o.op with
  | .alloc _=>.wr (others st.length [])
  | .store _ a _=>match Rk (ρ a)with | some b=>.up b | none=>.z 2
  | .call cl=>match cl.callee with
   | .value f=>match ρ f,vR (cl.args.toList.map ρ)with | some (.xg g caps),some l=>.wr (c.free (kg g) (uK g l caps) st) | _,_=>.z 2
   | .builtin bi=>BA bi (cl.args.toList.map ρ)
   | _=>.z 2
  | _=>.z 2
 | k=>.z k
structure b4 where
 fr:Fr
 kn:Kn
 st:St
 ks:List Nat      -- kinds of what has run,the last first
 bk:List RK
def y6(n:Nat)(o:Oper)(s:b4):T b4 :=
 bif vn n o.dst then
  let cl:=fW c s.kn s.fr o
  (zG cl s.st).bind fun r=>.ret ⟨s.fr.put o.dst r.1,QD s.kn o.dst (Zi s.kn o.op),r.2,cl.kind::s.ks,w7 c (vZ s.fr) s.st o::s.bk⟩
 else .fail
def uL(o:Oper)(s:b4):b4:=⟨s.fr.put o.dst (some DA),QD s.kn o.dst none,s.st,0::s.ks,.z 0::s.bk⟩
def b4.yA(s:b4)(t:Nat)(b:Bool):b4:={ s with kn:=(t,some b)::s.kn }
def stepG(n:Nat)(ops:Array Oper)(o:Oper)(s:b4):T b4:=match o.guard with
 | none=>y6 c n o s
 | some (j,want)=>match vW ops j with
  | none=>.fail
  | some t=>match s.kn.get t with
   | some b=>bif b==want then y6 c n o s else bif vn n o.dst then .ret (uL o s)else .fail
   | none=>match s.fr.get t with
    | some (.zi .bool x)=>bif vn n o.dst then
      .ite x (bif want then y6 c n o (s.yA t true)else .ret (uL o (s.yA t true)))
          (bif want then .ret (uL o (s.yA t false))else y6 c n o (s.yA t false))
     else .fail
    | some (.jY [])=>bif vn n o.dst then .ret (uL o s)else .fail
    | _=>.fail
def cS(n:Nat)(ops:Array Oper):List Oper→b4→T b4
 | [],s=>.ret s
 | o::l,s=>(stepG c n ops o s).bind fun s'=>cS n ops l s'
def tmpsOf(ops:Array Oper)(o:Oper):List Nat :=
 (match o.dst with | some d=>[d] | none=>[]) ++
 (match o.guard with | some (j,_)=>(match vW ops j with | some s=>[s] | none=>[]) | none=>[]) ++
 o.op.operands.toList.filterMap fun | .tmp t=>some t | _=>none
def qV(l:List Oper):List Nat→List Nat
 | acc=>match l with
  | []=>acc
  | o::r=>qV r (acc++[o.after.toList.foldl (fun s e=>bif Region.binds .any e then s ||| 2 ^ e.on ||| acc.getD e.on 0 else s) 0])
def ordered(bs:List Nat)(i j:Nat):Bool:=Nat.testBit (bs.getD j 0) i
def vO(k l:Nat):Bool:=(Nat.beq k 2 && !Nat.beq l 0)||(Nat.beq l 2 && !Nat.beq k 0)
def Yv{K:Type}(cl:K→K→Bool)(bs:List Nat)(xs:List (Nat×Option Nat×List Nat×K))(j:Nat)(dj:Option Nat)(tj:List Nat)(kj:K):Bool :=
 xs.all fun x=>ordered bs x.1 j||(!(match x.2.1 with | some d=>tj.contains d | none=>false) && !(match dj with | some d=>x.2.2.1.contains d | none=>false) && !cl x.2.2.2 kj)
def eF{K:Type}(cl:K→K→Bool)(ops:Array Oper)(bs:List Nat):List Oper→List K→Nat→List (Nat×Option Nat×List Nat×K)→Bool
 | [],_,_,_=>true
 | o::l,k::ks,j,xs=>let tj:=tmpsOf ops o; Yv cl bs xs j o.dst tj k&&eF cl ops bs l ks (j+1) ((j,o.dst,tj,k)::xs)
 | _,_,_,_=>false
def kZ:List Oper→Nat→Bool
 | [],_=>true
 | o::l,j=>o.after.toList.all (fun e => !Region.binds .any e||Nat.blt e.on j)&&kZ l (j+1)
def B1(ops:Array Oper)(ks:List Nat):Bool :=
 let l:=ops.toList
 kZ l 0&&eF vO ops (qV l []) l ks 0 []
def se(o:Oper):Bool:=(match o.op with | .alloc _=>true | _=>false)&&o.guard.isNone&&o.dst.isSome
def ZN:List Oper→List Nat→List Nat
 | o::l,k::ks=>(bif se o then 3 else k)::ZN l ks
 | _,_=>[]
def iE(k l:Nat):Bool:=bif Nat.beq k 3&&Nat.beq l 3 then false else vO (bif Nat.beq k 3 then 2 else k) (bif Nat.beq l 3 then 2 else l)
def Zy:List Oper→Nat→List Nat
 | [],_=>[]
 | o::l,i=>bif se o then i::Zy l (i+1)else Zy l (i+1)
def KP(bs al:List Nat)(n:Nat):Bool:=(List.range n).all fun j => !(al.any fun p=>ordered bs p j)||al.all fun p=>ordered bs p j
def H8(ops:Array Oper)(ks:List Nat):Bool :=
 let l:=ops.toList
 kZ l 0&&(ks.all fun k=>Nat.ble k 2)&&eF iE ops (qV l []) l (ZN l ks) 0 []&&KP (qV l []) (Zy l 0) l.length
def vL:RK→RK→Bool
 | .rd b,.wr A => !(A.any (Nat.beq b))
 | .wr A,.rd b => !(A.any (Nat.beq b))
 | .rd b,.up a=>Nat.beq a b
 | .up a,.rd b=>Nat.beq a b
 | .up a,.up b=>Nat.beq a b
 | x,y=>vO x.base y.base
def Hl(ops:Array Oper)(ks:List RK):Bool :=
 let l:=ops.toList
 kZ l 0&&eF vL ops (qV l []) l ks 0 []
def oc(ops:Array Oper)(ks:List Nat)(bk:List RK):Bool:=B1 ops ks||H8 ops ks||Hl ops bk
def yO(n:Nat)(ops:Array Oper)(draw:Bool)(fr:Fr)(kn:Kn)(st:St):T b4 :=
 (cS c n ops ops.toList ⟨fr,kn,st,[],[]⟩).bind fun s=>bif !draw||oc ops s.ks.reverse s.bk.reverse then .ret s else .fail
structure z5W where
 ex:Ex
 fr:Fr
 kn:Kn
 st:St
structure z4B where
 ex:Ex
 out:List (Nat×D)
 st:St
abbrev TQ:=Nat→Fr→St→T z4B
def Rq(l:List (Nat×D)):Fr:=l.map fun p=>(p.1,some p.2)
def ev(n:Nat)(L:TQ):Code→Fr→Kn→St→T z5W
 | .skip,fr,kn,st=>.ret ⟨.normal,fr,kn,st⟩
 | .region _ ops draw,fr,kn,st=>(yO c n ops draw fr kn st).bind fun s=>.ret ⟨.normal,s.fr,s.kn,s.st⟩
 | .seq a b,fr,kn,st=>(ev n L a fr kn st).bind fun r=>match r.ex with
  | .normal=>ev n L b r.fr r.kn r.st
  | _=>.ret r
 | .cond x a b,fr,kn,st=>match gW kn x with
  | some true=>ev n L a fr kn st
  | some false=>ev n L b fr kn st
  | none=>match x with
   | .tmp t=>match fr.get t with
    | some (.zi .bool v)=>.ite v (ev n L a fr ((t,some true)::kn) st) (ev n L b fr ((t,some false)::kn) st)
    | _=>.fail
   | _=>.fail
 | .block id (.loop _),fr,_,st=>(L id fr st).bind fun r=>match r.ex with
   | .exit id'=>bif Nat.beq id' id then .ret ⟨.normal,Rq r.out,[],r.st⟩else .ret ⟨.exit id',Rq r.out,[],r.st⟩
   | .normal=>.fail
   | x=>.ret ⟨x,Rq r.out,[],r.st⟩
 | .block id a,fr,kn,st=>(ev n L a fr kn st).bind fun r=>match r.ex with
  | .exit id'=>bif Nat.beq id' id then .ret { r with ex:=.normal } else .ret r
  | _=>.ret r
 | .exit id,fr,kn,st=>.ret ⟨.exit id,fr,kn,st⟩
 | .ret,fr,kn,st=>.ret ⟨.ret,fr,kn,st⟩
 | _,_,_,_=>.fail
def w9:List D→Nat→Fr
 | [],_=>[]
 | d::r,i=>(i,some d)::w9 r (i+1)
def yD(fr:Fr)(st:St):List ResultVar→T (List D)
 | []=>.ret []
 | .tmp t::r=>match fr.get t with
  | some d=>(yD fr st r).bind fun l=>.ret (d::l)
  | none=>.fail
 | .cell a t::r=>match fr.get a with
  | some (.ptr b off)=>match st[b]? with
   | some (.var d)=>match Yf c t d off with
    | some x=>(yD fr st r).bind fun l=>.ret (x::l)
    | none=>.fail
   | _=>.fail
  | _=>.fail
def vj(n:Nat):D→Bool
 | .ptr b _=>Nat.blt b n
 | .b6 b _=>Nat.blt b n
 | .vM b .. => Nat.blt b n
 | .ms b .. => Nat.blt b n
 | .xg .. | .agg _ | .jY _ | .iface .. => false
 | _=>true
def kV(n:Nat):D→Bool
 | .xg _ l=>l.all (vj n)
 | .agg l=>l.all (vj n)
 | .iface _ d=>vj n d
 | d=>vj n d
def Vx(n:Nat):ju→Bool
 | .var d=>kV n d
 | _=>true
end
end Go.AM
namespace Go.AM
open Go.RowKit
inductive Rc(w:World)(ok:Nat→Prop):(τ:Ty)→den τ→List Value→Prop
 | int (k:IntKind) (n:Int):Rc w ok (.int k) n [.int k n]
 | bool (b:Bool):Rc w ok .bool b [.bool b]
 | str (s:zh):Rc w ok .str s [.string ⟨s.toArray⟩]
 | cI (e:Ty) (a:Option Addr):Rc w ok (.sl e) ([]:List (den e)) [.slice a 0 0]
 | sl (e:Ty) (l:List (den e)) (blk off cap:Nat) (f:Nat→List Value) (w8:ok blk) (vx:l.length≤cap)
   (h:∀ i (hi:i<l.length),Rc w ok e l[i] (f i))
   (hc:∀ i,i<l.length→∀ j v,(f i)[j]? = some v→w.cell? ⟨blk,off+i*e.size+j,none⟩=some v) :
   Rc w ok (.sl e) l [.slice (some ⟨blk,off,none⟩) l.length cap]
 | nil:Rc w ok .nil () []
 | cons (a b:Ty) (x:den a) (y:den b) (c1 c2:List Value) (h1:Rc w ok a x c1) (h2:Rc w ok b y c2):Rc w ok (.cons a b) (x,y) (c1++c2)
 | expr (k:Int) (n:den WA) (s:zh) (l:List Expr) (cs:List Value) (h:Rc w ok pW (k,n,s,l,()) cs):Rc w ok .expr (.mk k n s l) cs
def Dl(w w':World)(ok ss:Nat→Prop):Prop:=∀ k,ok k→ss k∧w'.heap[k]? = w.heap[k]?
theorem yL{w w':World}{a:Addr}(h:w'.heap[a.block]? = w.heap[a.block]?):w'.cell? a=w.cell? a:=by simp[World.cell?,h]
section
variable {w w':World} {ok ss:Nat→Prop}
theorem Rc.mono{τ:Ty}{x:den τ}{cs:List Value}(hs:Dl w w' ok ss)(h:Rc w ok τ x cs):Rc w' ss τ x cs:=by
 induction h with
 | int k n=>exact .int k n
 | bool b=>exact .bool b
 | str s=>exact .str s
 | cI e a=>exact .cI e a
 | sl e l blk off cap f w8 vx h hc ih=>exact .sl e l blk off cap f (hs _ w8).1 vx ih fun i hi j v hv=>by rw[yL (hs _ w8).2]; exact hc i hi j v hv
 | nil=>exact .nil
 | cons a b x y c1 c2 h1 h2 i1 i2=>exact .cons a b x y c1 c2 i1 i2
 | expr k n s l cs h ih=>exact .expr k n s l cs ih
theorem Rc.len{τ:Ty}{x:den τ}{cs:List Value}(h:Rc w ok τ x cs):cs.length=τ.size:=by
 induction h with
 | cons a b x y c1 c2 h1 h2 i1 i2=>simp[Ty.size,i1,i2]
 | expr k n s l cs h ih=>simpa[Ty.size]using ih
 | _=>simp[Ty.size]
theorem Rc.one{τ:Ty}{x:den τ}{cs:List Value}(h:Rc w ok τ x cs):∀ v∈cs,v.oneCell'=true:=by
 induction h with
 | cons a b x y c1 c2 h1 h2 i1 i2=>intro v hv; rcases List.mem_append.1 hv with h | h; exact i1 v h; exact i2 v h
 | expr k n s l cs h ih=>exact ih
 | _=>intro v hv; simp at hv; try (subst hv; rfl)
theorem Rc.cD{k:IntKind}{n:Int}{cs:List Value}(h:Rc w ok (.int k) n cs):cs=[.int k n]:=by cases h; rfl
theorem Rc.ya{n:Bool}{cs:List Value}(h:Rc w ok .bool n cs):cs=[.bool n]:=by cases h; rfl
theorem Rc.jT{n:zh}{cs:List Value}(h:Rc w ok .str n cs):cs=[.string ⟨n.toArray⟩]:=by cases h; rfl
theorem Rc.cons_inv{a b:Ty}{x:den (.cons a b)}{cs:List Value}(h:Rc w ok (.cons a b) x cs):∃ c1 c2,cs=c1++c2∧Rc w ok a x.1 c1∧Rc w ok b x.2 c2:=by
 cases h with | cons _ _ x y c1 c2 h1 h2=>exact⟨c1,c2,rfl,h1,h2⟩
theorem Rc.qo{x:den .nil}{cs:List Value}(h:Rc w ok .nil x cs):cs=[]:=by cases h; rfl
theorem Rc.Jp{x:Expr}{cs:List Value}(h:Rc w ok .expr x cs):Rc w ok pW x.DE cs:=by cases h with | expr k n s l cs h=>exact h
theorem Rc.rX{e:Ty}{l:List (den e)}{cs:List Value}(h:Rc w ok (.sl e) l cs):(l=[]∧∃ a,cs=[.slice a 0 0]) ∨
  ∃ (blk off cap:Nat) (f:Nat→List Value),cs=[.slice (some ⟨blk,off,none⟩) l.length cap]∧ok blk∧l.length≤cap∧(∀ i (hi:i<l.length),Rc w ok e l[i] (f i)) ∧
   (∀ i,i<l.length→∀ j v,(f i)[j]? = some v→w.cell? ⟨blk,off+i*e.size+j,none⟩=some v):=by
 cases h with
 | cI _ a=>exact .inl ⟨rfl,a,rfl⟩
 | sl _ _ blk off cap f w8 vx h hc=>exact .inr ⟨blk,off,cap,f,rfl,w8,vx,h,hc⟩
end
def pk(τ:Ty)(cs:List Value):Value:=if τ.isAgg then .agg cs.toArray else cs.headD undef
structure KS where
 w:World
 ok:Nat→Prop
 ph:List (Option (Nat×Nat))
 st:St
def Hm(ph:List (Option (Nat×Nat)))(b z4E:Nat)(e:Ty)(off len:Nat)(v:Value):Prop :=
 off+len≤z4E∧((len=0∧off=0∧v=.slice none 0 0∧ph[b]? = some none) ∨
  ∃ (blk n o cap:Nat),ph[b]? = some (some (blk,n))∧v=.slice (some ⟨blk,o,none⟩) len cap∧len≤cap∧(off+cap)*e.size≤n∧(cap=0∨o=off*e.size))
def Old(st:St)(b qs:Nat):Prop:=st[b]? = some .dead∨∃ (v0:Nat) (e0:Ty) (iA:List (den e0)),st[b]? = some (.arr v0 e0 iA)∧qs≤v0
def D.one:D→Bool
 | .zi τ _ => !τ.isAgg
 | .agg _ | .jY _=>false
 | _=>true
def ik(f:Nat)(vs:List Value):Value:=bif Nat.ble 1000000 f then .func (.func (f % 1000000)) vs.toArray #[]else .func (.func f) #[] vs.toArray
theorem Bh{f:Nat}(h:Nat.blt f 1000000=true)(vs:List Value):ik f vs=.func (.func f) #[] vs.toArray:=by
 have:Nat.ble 1000000 f=false:=by
  cases hb:Nat.ble 1000000 f with
  | false=>rfl
  | true=>have h1:=Nat.le_of_ble_eq_true hb; have h2:=Nat.le_of_ble_eq_true h; omega
 unfold ik; rw[this]; rfl
theorem GF{f:Nat}(h:Nat.blt f 1000000=true)(vs:List Value):ik (f+1000000) vs=.func (.func f) vs.toArray #[]:=by
 have h1:Nat.ble 1000000 (f+1000000)=true:=Nat.ble_eq_true_of_le (by omega)
 have h2:=Nat.le_of_ble_eq_true h
 have h3:(f+1000000) % 1000000=f:=by omega
 unfold ik; rw[h1,h3]; rfl
theorem ZY(f:Nat)(vs:List Value):(ik f vs).cells.toList=[ik f vs]:=by
 unfold ik; cases Nat.ble 1000000 f<;>rfl
theorem Eb(f:Nat)(vs:List Value):(ik f vs).oneCell'=true:=by
 unfold ik; cases Nat.ble 1000000 f<;>rfl
theorem ZS(f:Nat)(vs:List Value):∃ g a b,ik f vs=.func (.func g) a b:=by
 unfold ik; cases Nat.ble 1000000 f<;>exact⟨_,_,_,rfl⟩
inductive RD(κ:KS):D→Value→Prop
 | zi (τ:Ty) (x:den τ) (cs:List Value) (h:Rc κ.w κ.ok τ x cs):RD κ (.zi τ x) (pk τ cs)
 | qW (e:Ty) (a:Option Addr):RD κ (.tight e ([]:List (den e)) false) (.slice a 0 0)
 | tight (e:Ty) (l:List (den e)) (ne:Bool) (blk off:Nat) (f:Nat→List Value) (u7:ne=true→l≠[]) (w8:κ.ok blk)
   (h:∀ i (hi:i<l.length),Rc κ.w κ.ok e l[i] (f i))
   (hc:∀ i,i<l.length→∀ j v,(f i)[j]? = some v→κ.w.cell? ⟨blk,off+i*e.size+j,none⟩=some v) :
   RD κ (.tight e l ne) (.slice (some ⟨blk,off,none⟩) l.length l.length)
 | xb:RD κ .xb (.slice none 0 0)
 | jE:RD κ .jE (.pointer none)
 | qQ:RD κ .qQ .nilIface
 | vr:RD κ .vr .nilFunc
 | vq:RD κ .vq (.map none)
 | pn (v:Value) (h:v.oneCell'=true):RD κ .pn v
 | gz (T:Nat):RD κ (.gz T) (.pointer none)
 | h9 (b T:Nat) (d:D) (hd:κ.st[b]? = some (.var d)):RD κ (.b6 b T) (.pointer none)
 | bC (b T blk n:Nat) (d:D) (hd:κ.st[b]? = some (.var d)) (h:κ.ph[b]? = some (some (blk,n))):RD κ (.b6 b T) (.pointer (some ⟨blk,0,none⟩))
 | ptr (b off blk n:Nat) (d:D) (hd:κ.st[b]? = some (.var d)) (h:κ.ph[b]? = some (some (blk,n))):RD κ (.ptr b off) (.pointer (some ⟨blk,off,none⟩))
 | qK (τ:Ty) (x:den τ) (cs:List Value) (blk off:Nat) (w8:κ.ok blk) (h:Rc κ.w κ.ok τ x cs)
   (hc:∀ j v,cs[j]? = some v→κ.w.cell? ⟨blk,off+j,none⟩=some v):RD κ (.qK τ x) (.pointer (some ⟨blk,off,none⟩))
 | vM (b qs:Nat) (e:Ty) (idx off blk o:Nat) (hb:Old κ.st b qs)
   (h:∀ xs:List (den e),κ.st[b]? = some (.arr qs e xs)→idx<xs.length→∃ n:Nat,κ.ph[b]? = some (some (blk,n))∧o=idx*e.size+off) :
   RD κ (.vM b qs e idx off) (.pointer (some ⟨blk,o,none⟩))
 | ms (b qs:Nat) (e:Ty) (off len cap:Nat) (a:Option Addr) (hb:Old κ.st b qs) (vx:len≤cap) (ha:a=none→cap=0) (mZ:∀ p,a=some p→p.spot=none)
   (h:∀ xs:List (den e),κ.st[b]? = some (.arr qs e xs)→Hm κ.ph b xs.length e off len (.slice a len cap)):RD κ (.ms b qs e off len) (.slice a len cap)
 | xg (f:Nat) (l:List D) (vs:List Value) (hl:l.length=vs.length) (h:∀ i (h1:i<l.length) (h2:i<vs.length),RD κ l[i] vs[i]):RD κ (.xg f l) (ik f vs)
 | agg (l:List D) (vs:List Value) (hl:l.length=vs.length) (ho:∀ d∈l,d.one=true) (h:∀ i (h1:i<l.length) (h2:i<vs.length),RD κ l[i] vs[i]):RD κ (.agg l) (.agg vs.toArray)
 | jY (l:List D) (vs:List Value) (hl:l.length=vs.length) (h:∀ i (h1:i<l.length) (h2:i<vs.length),RD κ l[i] vs[i]):RD κ (.jY l) (.tuple vs.toArray)
 | iface (t:Nat) (d:D) (v:Value) (h:RD κ d v):RD κ (.iface t d) (.iface t v)
def qG(κ:KS)(l:List D)(vs:List Value):Prop:=l.length=vs.length∧∀ i (h1:i<l.length) (h2:i<vs.length),RD κ l[i] vs[i]
def de[Xt](κ:KS)(b:Nat):ju→Prop
 | .dead=>True
 | .var d=>∃ (blk n:Nat) (cs:Array Value) (t:TypeId),κ.ph[b]? = some (some (blk,n))∧κ.w.heap[blk]? = some (.cells cs t (0,0))∧cs.size=n∧qG κ (zW d) cs.toList∧(∀ x∈zW d,x.one=true)∧∀ T,d.typed=some T→t=T
 | .arr _ e xs=>0<e.size∧((xs=[]∧κ.ph[b]? = some none) ∨
   ∃ (blk n:Nat) (cs:Array Value) (t:TypeId),κ.ph[b]? = some (some (blk,n))∧κ.w.heap[blk]? = some (.cells cs t (0,0))∧cs.size=n∧xs.length*e.size≤n∧Oq e t ∧
    ∃ f:Nat→List Value,∀ i (hi:i<xs.length),Rc κ.w κ.ok e xs[i] (f i)∧∀ j v,(f i)[j]? = some v→cs[i*e.size+j]? = some v)
class vP extends Xt where
 tab:List (Nat×(Obj→Prop))
def nY[vP](w:World)(ok:Nat→Prop):Prop:=∀ x∈vP.tab,ok x.1∧∃ o,w.heap[x.1]? = some o∧x.2 o
theorem nY.mono[vP]{w w':World}{ok ss:Nat→Prop}(h:nY w ok)(hs:Dl w w' ok ss):nY w' ss:=fun x hx=>by
 obtain⟨h1,o,h2,h3⟩:=h x hx
 obtain⟨g1,g2⟩:=hs _ h1
 exact⟨g1,o,by rw[g2]; exact h2,h3⟩
structure Inv[vP](κ:KS):Prop where
 len:κ.ph.length=κ.st.length
 kY:∀ k,κ.ok k→k<κ.w.heap.size
 apart:∀ (b blk n:Nat),κ.ph[b]? = some (some (blk,n))→blk<κ.w.heap.size∧¬ κ.ok blk
 inj:∀ (b b' blk n n':Nat),κ.ph[b]? = some (some (blk,n))→κ.ph[b']? = some (some (blk,n'))→b=b'
 blk:∀ (b:Nat) (x:ju),κ.st[b]? = some x→de κ b x
 gl:nY κ.w κ.ok
structure Ext(κ κ':KS):Prop where
 os:κ'.w.os=κ.w.os
 tape:κ'.w.tape=κ.w.tape
 output:κ'.w.output=κ.w.output
 size:κ.w.heap.size≤κ'.w.heap.size
 same:Dl κ.w κ'.w κ.ok κ'.ok
 fresh:∀ k,κ'.ok k→κ.ok k∨κ.w.heap.size≤k∨∃ b n:Nat,κ.ph[b]? = some (some (k,n))
 Li:∀ (b blk n:Nat),κ'.ph[b]? = some (some (blk,n))→κ.ph[b]? = some (some (blk,n))∨κ.w.heap.size≤blk
 var:∀ (b:Nat) (d:D),κ.st[b]? = some (.var d)→(∃ d',κ'.st[b]? = some (.var d'))∧κ'.ph[b]? = κ.ph[b]?
 arr:∀ (b v0:Nat) (e:Ty) (iA:List (den e)),κ.st[b]? = some (.arr v0 e iA)→κ'.st[b]? = some .dead ∨
  ∃ (v1:Nat) (qp:List (den e)),κ'.st[b]? = some (.arr v1 e qp)∧v0≤v1∧(v0=v1→κ'.ph[b]? = κ.ph[b]? ∧ iA.length=qp.length)
 dead:∀ (b:Nat),κ.st[b]? = some .dead→κ'.st[b]? = some .dead
 Jk:κ.st.length≤κ'.st.length
 frame:∀ k,k<κ.w.heap.size→(∀ (b n:Nat),κ.ph[b]? ≠ some (some (k,n)))→κ'.w.heap[k]? = κ.w.heap[k]?
theorem Ext.refl(κ:KS):Ext κ κ :=
 ⟨rfl,rfl,rfl,Nat.le_refl _,fun _ h=>⟨h,rfl⟩,fun _ h=>.inl h,fun _ _ _ h=>.inl h,fun _ d h=>⟨⟨d,h⟩,rfl⟩,
  fun _ qs _ xs h=>.inr ⟨qs,xs,h,Nat.le_refl _,fun _=>⟨rfl,rfl⟩⟩,fun _ h=>h,Nat.le_refl _,fun _ _ _=>rfl⟩
theorem Ext.trans{a b c:KS}(h:Ext a b)(k:Ext b c):Ext a c:=by
 refine⟨k.os.trans h.os,k.tape.trans h.tape,k.output.trans h.output,Nat.le_trans h.size k.size,?_,?_,?_,?_,?_,fun b hb=>k.dead b (h.dead b hb),Nat.le_trans h.Jk k.Jk,?_⟩
 ·intro i hi
  obtain⟨h1,h2⟩:=h.same i hi
  obtain⟨h3,h4⟩:=k.same i h1
  exact⟨h3,h4.trans h2⟩
 ·intro i hi
  rcases k.fresh i hi with h1 | h1 | ⟨b,n,h1⟩
  ·exact h.fresh i h1
  ·exact .inr (.inl (Nat.le_trans h.size h1))
  ·rcases h.Li b i n h1 with h2 | h2
   ·exact .inr (.inr ⟨b,n,h2⟩)
   ·exact .inr (.inl h2)
 ·intro i blk n hi
  rcases k.Li i blk n hi with h1 | h1
  ·exact h.Li i blk n h1
  ·exact .inr (Nat.le_trans h.size h1)
 ·intro i d hi
  obtain⟨⟨d',j9⟩,hp⟩:=h.var i d hi
  obtain⟨z4y,hp'⟩:=k.var i d' j9
  exact⟨z4y,hp'.trans hp⟩
 ·intro i v0 e iA hi
  rcases h.arr i v0 e iA hi with h1 | ⟨v1,x1,h1,h2,h3⟩
  ·exact .inl (k.dead i h1)
  ·rcases k.arr i v1 e x1 h1 with g1 | ⟨v2,x2,g1,g2,g3⟩
   ·exact .inl g1
   ·refine .inr ⟨v2,x2,g1,Nat.le_trans h2 g2,fun he => ?_⟩
    have e1:v1=v2:=by omega
    have e0:v0=v1:=by omega
    exact⟨(g3 e1).1.trans (h3 e0).1,(h3 e0).2.trans (g3 e1).2⟩
 ·intro i hi hn
  refine(k.frame i (Nat.lt_of_lt_of_le hi h.size) fun b n hb => ?_).trans (h.frame i hi hn)
  rcases h.Li b i n hb with h1 | h1
  ·exact hn b n h1
  ·omega
theorem Ext.old{κ κ':KS}(x:Ext κ κ'){b qs:Nat}(h:Old κ.st b qs):Old κ'.st b qs:=by
 rcases h with h | ⟨v0,e0,iA,h,hv⟩
 ·exact .inl (x.dead b h)
 ·rcases x.arr b v0 e0 iA h with h1 | ⟨v1,x1,h1,h2,_⟩
  ·exact .inl h1
  ·exact .inr ⟨v1,e0,x1,h1,Nat.le_trans hv h2⟩
theorem Ext.back{κ κ':KS}(x:Ext κ κ'){b qs:Nat}(h:Old κ.st b qs){e:Ty}{xs:List (den e)}(hx:κ'.st[b]? = some (.arr qs e xs)) :
  ∃ iA:List (den e),κ.st[b]? = some (.arr qs e iA)∧κ'.ph[b]? = κ.ph[b]? ∧ iA.length=xs.length:=by
 rcases h with h | ⟨v0,e0,iA,h,hv⟩
 ·have:=x.dead b h; rw[hx]at this; cases this
 ·rcases x.arr b v0 e0 iA h with h1 | ⟨v1,x1,h1,h2,h3⟩
  ·rw[hx]at h1; cases h1
  ·rw[hx]at h1
   cases h1
   have e0:v0=qs:=by omega
   subst e0
   exact⟨iA,h,(h3 rfl).1,(h3 rfl).2⟩
theorem RD.mono{κ κ':KS}(x:Ext κ κ'){d:D}{v:Value}(h:RD κ d v):RD κ' d v:=by
 induction h with
 | zi τ y cs h=>exact .zi τ y cs (h.mono x.same)
 | qW e a=>exact .qW e a
 | tight e l ne blk off f u7 w8 h hc=>exact .tight e l ne blk off f u7 (x.same _ w8).1 (fun i hi=>(h i hi).mono x.same) fun i hi j v hv=>by rw[yL (x.same _ w8).2]; exact hc i hi j v hv
 | xb=>exact .xb
 | jE=>exact .jE
 | qQ=>exact .qQ
 | vr=>exact .vr
 | vq=>exact .vq
 | pn v h=>exact .pn v h
 | gz T=>exact .gz T
 | h9 b T d hd =>
  obtain⟨⟨d',j9⟩,hp⟩:=x.var b d hd
  exact .h9 b T d' j9
 | bC b T blk n d hd h =>
  obtain⟨⟨d',j9⟩,hp⟩:=x.var b d hd
  exact .bC b T blk n d' j9 (hp.trans h)
 | ptr b off blk n d hd h =>
  obtain⟨⟨d',j9⟩,hp⟩:=x.var b d hd
  exact .ptr b off blk n d' j9 (hp.trans h)
 | qK τ y cs blk off w8 h hc=>exact .qK τ y cs blk off (x.same _ w8).1 (h.mono x.same) fun j v hv=>by rw[yL (x.same _ w8).2]; exact hc j v hv
 | vM b qs e idx off blk o hb h =>
  refine .vM b qs e idx off blk o (x.old hb) fun xs hx hi => ?_
  obtain⟨iA,h1,h2,h3⟩:=x.back hb hx
  rw[h2]
  exact h iA h1 (by omega)
 | ms b qs e off len cap a hb vx ha mZ h =>
  refine .ms b qs e off len cap a (x.old hb) vx ha mZ fun xs hx => ?_
  obtain⟨iA,h1,h2,h3⟩:=x.back hb hx
  have:=h iA h1
  unfold Hm at this ⊢
  rw[h2,← h3]
  exact this
 | xg f l vs hl h ih=>exact .xg f l vs hl ih
 | agg l vs hl ho h ih=>exact .agg l vs hl ho ih
 | jY l vs hl h ih=>exact .jY l vs hl ih
 | iface t d v h ih=>exact .iface t d v ih
end Go.AM
namespace Go.AM
section
variable {α β:Type}
theorem T.zH{t:T α}{k:α→T β}{b:β}:(t.bind k).leads b↔∃ a,t.leads a∧(k a).leads b:=by
 induction t with
 | ret a=>simp[T.bind,T.leads]
 | ite c t e i1 i2 =>
  simp only[T.bind,T.leads,i1,i2]
  constructor
  ·rintro(⟨h,a,x,y⟩ | ⟨h,a,x,y⟩)
   ·exact⟨a,.inl ⟨h,x⟩,y⟩
   ·exact⟨a,.inr ⟨h,x⟩,y⟩
  ·rintro⟨a,⟨h,x⟩ | ⟨h,x⟩,y⟩
   ·exact .inl ⟨h,a,x,y⟩
   ·exact .inr ⟨h,a,x,y⟩
 | zj p t ih =>
  simp only[T.bind,T.leads,ih]; constructor
  ·rintro⟨h,a,x,y⟩; exact⟨a,⟨h,x⟩,y⟩
  ·rintro⟨a,⟨h,x⟩,y⟩; exact⟨h,a,x,y⟩
 | fail=>simp[T.bind,T.leads]
theorem T.vC{o:Option α}{a:α}:(T.tc o).leads a↔o=some a:=by cases o<;>simp[T.tc,T.leads]
end
section
variable {κ:KS}
theorem qG.nil:qG κ [] []:=⟨rfl,fun i h _=>absurd h (Nat.not_lt_zero i)⟩
theorem qG.cons{d:D}{v:Value}{l:List D}{vs:List Value}(h:RD κ d v)(t:qG κ l vs):qG κ (d::l) (v::vs) :=
 ⟨by simp[t.1],fun i h1 h2=>by cases i with | zero=>exact h | succ i=>exact t.2 i (by simpa using h1) (by simpa using h2)⟩
theorem qG.cons_inv{d:D}{l:List D}{vs:List Value}(h:qG κ (d::l) vs):∃ v r,vs=v::r∧RD κ d v∧qG κ l r:=by
 obtain⟨hl,h⟩:=h
 cases vs with
 | nil=>simp at hl
 | cons v r=>exact⟨v,r,rfl,h 0 (by simp) (by simp),by simpa using hl,fun i h1 h2=>h (i+1) (by simpa using h1) (by simpa using h2)⟩
theorem qG.qo{vs:List Value}(h:qG κ [] vs):vs=[]:=List.eq_nil_of_length_eq_zero h.1.symm
theorem qG.append{l l':List D}{vs vs':List Value}(h:qG κ l vs)(h':qG κ l' vs'):qG κ (l++l') (vs++vs'):=by
 induction l generalizing vs with
 | nil=>rw[h.qo]; exact h'
 | cons d l ih=>obtain⟨v,r,rfl,h1,h2⟩:=h.cons_inv; exact .cons h1 (ih h2)
theorem qG.GX{l l':List D}{vs:List Value}(h:qG κ (l++l') vs):∃ v1 v2,vs=v1++v2∧qG κ l v1∧qG κ l' v2:=by
 induction l generalizing vs with
 | nil=>exact⟨[],vs,rfl,.nil,h⟩
 | cons d l ih =>
  obtain⟨v,r,rfl,h1,h2⟩:=h.cons_inv
  obtain⟨v1,v2,rfl,h3,h4⟩:=ih h2
  exact⟨v::v1,v2,rfl,.cons h1 h3,h4⟩
theorem qG.get{l:List D}{vs:List Value}(h:qG κ l vs){i:Nat}{d:D}(hd:l[i]? = some d):∃ v,vs[i]? = some v∧RD κ d v:=by
 obtain⟨qh,he⟩:=List.getElem?_eq_some_iff.1 hd
 have h2:i<vs.length:=h.1▸qh
 exact⟨vs[i],List.getElem?_eq_getElem h2,he▸h.2 i qh h2⟩
theorem qG.take{l:List D}{vs:List Value}(h:qG κ l vs)(n:Nat):qG κ (l.take n) (vs.take n) :=
 ⟨by simp[h.1],fun i h1 h2=>by simp only[List.getElem_take]; exact h.2 i (by simp at h1; omega) (by simp at h2; omega)⟩
theorem qG.drop{l:List D}{vs:List Value}(h:qG κ l vs)(n:Nat):qG κ (l.drop n) (vs.drop n) :=
 ⟨by simp[h.1],fun i h1 h2=>by simp only[List.getElem_drop]; exact h.2 (n+i) (by simp at h1; omega) (by simp at h2; omega)⟩
theorem qG.mono{κ':KS}(x:Ext κ κ'){l:List D}{vs:List Value}(h:qG κ l vs):qG κ' l vs:=⟨h.1,fun i h1 h2=>(h.2 i h1 h2).mono x⟩
theorem pO{τ:Ty}{cs:List Value}(h:cs.length=τ.size)(iI:∀ v∈cs,v.oneCell'=true):(pk τ cs).cells.toList=cs:=by
 unfold pk
 split
 ·simp[Value.cells]
 ·rename_i hn
  have hs:τ.size=1:=by cases τ<;>simp[Ty.isAgg]at hn<;>rfl
  match cs,h,iI with
  | [v],_,iI =>
   have:=iI v (by simp)
   simp only[List.headD_cons]
   cases v<;>first | rfl | cases this
  | [],h,_=>rw[hs]at h; cases h
  | _::_::_,h,_=>rw[hs]at h; simp at h
theorem Qx{τ:Ty}(h:τ.isAgg=false)(v:Value):pk τ [v]=v:=by simp[pk,h]
theorem sV{τ:Ty}(h:τ.isAgg=false):τ.size=1:=by cases τ<;>simp[Ty.isAgg]at h<;>rfl
theorem Rc.single{w:World}{ok:Nat→Prop}{τ:Ty}{x:den τ}{cs:List Value}(h:Rc w ok τ x cs)(ht:τ.isAgg=false):∃ v,cs=[v]:=by
 have:=h.len
 rw[sV ht]at this
 match cs,this with
 | [v],_=>exact⟨v,rfl⟩
theorem RD.dW{τ:Ty}{x:den τ}{v:Value}(ht:τ.isAgg=false)(h:Rc κ.w κ.ok τ x [v]):RD κ (.zi τ x) v:=by
 have:=RD.zi τ x [v] h
 rwa [Qx ht]at this
theorem RD.yh{τ:Ty}{x:den τ}{v:Value}(h:RD κ (.zi τ x) v):∃ cs,Rc κ.w κ.ok τ x cs∧v=pk τ cs:=by
 cases h with | zi _ _ cs h=>exact⟨cs,h,rfl⟩
theorem RD.wU{τ:Ty}{x:den τ}{v:Value}(h:RD κ (.zi τ x) v)(ht:τ.isAgg=false):Rc κ.w κ.ok τ x [v]:=by
 obtain⟨cs,hc,rfl⟩:=RD.yh h
 obtain⟨u,rfl⟩:=hc.single ht
 rwa [Qx ht]
theorem RD.int{k:IntKind}{n:Int}:RD κ (.zi (.int k) n) (.int k n):=RD.dW rfl (.int k n)
theorem RD.bool{b:Bool}:RD κ (.zi .bool b) (.bool b):=RD.dW rfl (.bool b)
theorem RD.str{s:zh}:RD κ (.zi .str s) (.string ⟨s.toArray⟩):=RD.dW rfl (.str s)
theorem RD.cD{k:IntKind}{n:Int}{v:Value}(h:RD κ (.zi (.int k) n) v):v=.int k n:=by have:=(h.wU rfl).cD; simpa using this
theorem RD.ya{b:Bool}{v:Value}(h:RD κ (.zi .bool b) v):v=.bool b:=by have:=(h.wU rfl).ya; simpa using this
theorem RD.jT{s:zh}{v:Value}(h:RD κ (.zi .str s) v):v=.string ⟨s.toArray⟩:=by have:=(h.wU rfl).jT; simpa using this
theorem qG.one{d:D}{v:Value}(h:RD κ d v):qG κ [d] [v]:=.cons h .nil
theorem lj{τ:Ty}{x:den τ}{cs:List Value}(h:Rc κ.w κ.ok τ x cs):qG κ (flat τ x) cs:=by
 induction τ generalizing cs with
 | int k=>obtain⟨v,rfl⟩:=h.single rfl; exact .one (.dW rfl h)
 | bool=>obtain⟨v,rfl⟩:=h.single rfl; exact .one (.dW rfl h)
 | str=>obtain⟨v,rfl⟩:=h.single rfl; exact .one (.dW rfl h)
 | sl e _=>obtain⟨v,rfl⟩:=h.single rfl; exact .one (.dW rfl h)
 | nil=>rw[h.qo]; exact .nil
 | cons a b i1 i2=>obtain⟨c1,c2,rfl,h1,h2⟩:=h.cons_inv; exact(i1 h1).append (i2 h2)
 | expr =>
  obtain⟨c1,r1,rfl,h1,t1⟩:=h.Jp.cons_inv
  obtain⟨c2,r2,rfl,h2,t2⟩:=t1.cons_inv
  obtain⟨c3,r3,rfl,h3,t3⟩:=t2.cons_inv
  obtain⟨c4,r4,rfl,h4,t4⟩:=t3.cons_inv
  have e4:=t4.qo
  subst e4
  obtain⟨d1,s1,rfl,g1,u1⟩:=h2.cons_inv
  obtain⟨d2,s2,rfl,g2,u2⟩:=u1.cons_inv
  obtain⟨d3,s3,rfl,g3,u3⟩:=u2.cons_inv
  have e5:=u3.qo
  subst e5
  obtain⟨v1,rfl⟩:=h1.single rfl
  obtain⟨v3,rfl⟩:=h3.single rfl
  obtain⟨v4,rfl⟩:=h4.single rfl
  obtain⟨u1,rfl⟩:=g1.single rfl
  obtain⟨u2,rfl⟩:=g2.single rfl
  obtain⟨u3,rfl⟩:=g3.single rfl
  exact .cons (.dW rfl h1) (.cons (.dW rfl g1) (.cons (.dW rfl g2) (.cons (.dW rfl g3) (.cons (.dW rfl h3) (.cons (.dW rfl h4) .nil)))))
theorem gH:∀ (τ:Ty) (x:den τ),∀ d∈flat τ x,d.one=true
 | .int _,_,d,h | .bool,_,d,h | .str,_,d,h | .sl _,_,d,h=>by simp[flat]at h; subst h; rfl
 | .nil,_,d,h=>by simp[flat]at h
 | .cons a b,x,d,h=>by
  simp only[flat,List.mem_append]at h
  rcases h with h | h
  ·exact gH a x.1 d h
  ·exact gH b x.2 d h
 | .expr,x,d,h=>by simp[flat]at h; rcases h with rfl | rfl | rfl | rfl | rfl | rfl<;>rfl
theorem pe:∀ (τ:Ty) (x:den τ),(flat τ x).length=τ.size
 | .int _,_ | .bool,_ | .str,_ | .sl _,_ | .nil,_ | .expr,_=>rfl
 | .cons a b,x=>by simp[flat,Ty.size,pe a,pe b]
theorem XT{v:Value}(h:v.oneCell'=true):v.cells = #[v]:=by
 cases v<;>first | rfl | cases h
theorem uD{d:D}{v:Value}(h:RD κ d v)(ht:d.vN=false):qG κ (zW d) v.cells.toList:=by
 cases h with
 | zi τ x cs h=>rw[pO h.len h.one]; exact lj h
 | agg l vs hl ho h=>exact⟨by simpa[Value.cells,zW]using hl,fun i h1 h2=>by simp only[Value.cells]at h2 ⊢; exact h i h1 h2⟩
 | jY=>cases ht
 | qW e a=>exact .one (.qW e a)
 | tight e l ne blk off f u7 w8 h hc=>exact .one (.tight e l ne blk off f u7 w8 h hc)
 | xb=>exact .one .xb
 | jE=>exact .one .jE
 | qQ=>exact .one .qQ
 | vr=>exact .one .vr
 | vq=>exact .one .vq
 | pn v h=>rw[XT h]; exact .one (.pn v h)
 | gz T=>exact .one (.gz T)
 | h9 b T d hd=>exact .one (.h9 b T d hd)
 | bC b T blk n d hd h=>exact .one (.bC b T blk n d hd h)
 | ptr b off blk n d hd h=>exact .one (.ptr b off blk n d hd h)
 | qK τ x cs blk off w8 h hc=>exact .one (.qK τ x cs blk off w8 h hc)
 | vM b qs e idx off blk o hb h=>exact .one (.vM b qs e idx off blk o hb h)
 | ms b qs e off len cap a hb vx ha mZ h=>exact .one (.ms b qs e off len cap a hb vx ha mZ h)
 | xg f l vs hl h=>rw[ZY]; exact .one (.xg f l vs hl h)
 | iface t d v h=>exact .one (.iface t d v h)
theorem uz{d:D}{v:Value}(h:RD κ d v):∀ x∈zW d,x.one=true:=by
 cases h with
 | zi τ x cs h=>exact gH τ x
 | agg l vs hl ho h=>exact ho
 | jY=>intro x hx; simp[zW]at hx
 | _=>intro x hx; simp[zW]at hx; subst hx; rfl
theorem RD.Vu{d:D}{v:Value}(h:RD κ d v)(ho:d.one=true):v.oneCell'=true:=by
 cases h with
 | zi τ x cs h =>
  have ht:τ.isAgg=false:=by simpa[D.one]using ho
  obtain⟨v,rfl⟩:=h.single ht
  rw[Qx ht]
  exact h.one v (by simp)
 | agg=>cases ho
 | jY=>cases ho
 | pn v h=>exact h
 | xg f l vs=>exact Eb f vs
 | _=>rfl
theorem qe{a b:Ty}{x:den a}{y:den b}(h:(wS x:Option (den b))=some y):∃ e:a=b,y=e▸x:=by
 unfold wS at h
 split at h
 ·rename_i e; cases h; exact⟨e,rfl⟩
 ·cases h
theorem jP{τ:Ty}{d:D}{v:Value}{x:den τ}(h:RD κ d v)(hx:bM τ d=some x)(ht:τ.isAgg=false):Rc κ.w κ.ok τ x [v]:=by
 cases h with
 | zi σ y cs h =>
  obtain⟨rfl,rfl⟩:=qe hx
  obtain⟨u,rfl⟩:=h.single ht
  rwa [Qx ht]
 | qW e a=>obtain⟨rfl,rfl⟩:=qe hx; exact .cI e a
 | tight e l ne blk off f u7 w8 h hc=>obtain⟨rfl,rfl⟩:=qe hx; exact .sl e _ blk off _ f w8 (Nat.le_refl _) h hc
 | xb =>
  cases τ with
  | sl e=>simp[bM]at hx; subst hx; exact .cI e none
  | _=>simp[bM]at hx
 | _=>simp[bM]at hx
theorem mu:∀ (τ:Ty) {ds:List D} {vs:List Value} {x:den τ} {r:List D},qG κ ds vs→uJ τ ds=some (x,r) →
  ∃ c1 c2,vs=c1++c2∧Rc κ.w κ.ok τ x c1∧qG κ r c2
 | .int k,[],_,_,_,_,he | .bool,[],_,_,_,_,he | .str,[],_,_,_,_,he | .sl e,[],_,_,_,_,he | .expr,[],_,_,_,_,he=>by simp[uJ]at he
 | .int k,d::r,vs,x,r',h,he=>by
  simp only[uJ]at he
  split at he
  ·rename_i y hy; cases he; obtain⟨v,u,rfl,h1,h2⟩:=h.cons_inv; exact⟨[v],u,rfl,jP h1 hy rfl,h2⟩
  ·cases he
 | .bool,d::r,vs,x,r',h,he=>by
  simp only[uJ]at he
  split at he
  ·rename_i y hy; cases he; obtain⟨v,u,rfl,h1,h2⟩:=h.cons_inv; exact⟨[v],u,rfl,jP h1 hy rfl,h2⟩
  ·cases he
 | .str,d::r,vs,x,r',h,he=>by
  simp only[uJ]at he
  split at he
  ·rename_i y hy; cases he; obtain⟨v,u,rfl,h1,h2⟩:=h.cons_inv; exact⟨[v],u,rfl,jP h1 hy rfl,h2⟩
  ·cases he
 | .sl e,d::r,vs,x,r',h,he=>by
  simp only[uJ]at he
  split at he
  ·rename_i y hy; cases he; obtain⟨v,u,rfl,h1,h2⟩:=h.cons_inv; exact⟨[v],u,rfl,jP h1 hy rfl,h2⟩
  ·cases he
 | .nil,ds,vs,x,r,h,he=>by simp only[uJ]at he; cases he; exact⟨[],vs,rfl,.nil,h⟩
 | .cons a b,ds,vs,x,r,h,he=>by
  simp only[uJ]at he
  split at he
  ·rename_i y r' hy
   split at he
   ·rename_i z r'' hz
    cases he
    obtain⟨c1,c2,rfl,h1,h2⟩:=mu a h hy
    obtain⟨c3,c4,rfl,h3,h4⟩:=mu b h2 hz
    exact⟨c1++c3,c4,by simp,.cons a b y z c1 c3 h1 h3,h4⟩
   ·cases he
  ·cases he
 | .expr,d::r,vs,x,r',h,he=>by
  simp only[uJ]at he
  split at he
  ·cases he
  ·rename_i k hk
   split at he
   ·rename_i d1 d2 d3 d4 d5 r0
    split at he
    ·rename_i a n m s l ha hn hm hs hl
     cases he
     obtain⟨v,u,rfl,h0,t0⟩:=h.cons_inv
     obtain⟨v1,u1,rfl,h1,t1⟩:=t0.cons_inv
     obtain⟨v2,u2,rfl,h2,t2⟩:=t1.cons_inv
     obtain⟨v3,u3,rfl,h3,t3⟩:=t2.cons_inv
     obtain⟨v4,u4,rfl,h4,t4⟩:=t3.cons_inv
     obtain⟨v5,u5,rfl,h5,t5⟩:=t4.cons_inv
     refine⟨[v]++(([v1]++([v2]++([v3]++[])))++([v4]++([v5]++[]))),u5,by simp,.expr _ _ _ _ _ ?_,t5⟩
     exact .cons i64 _ k _ _ _ (jP h0 hk rfl) (.cons WA _ (a,n,m,()) _ _ _ (.cons .bool _ a _ _ _ (jP h1 ha rfl) (.cons _ _ n _ _ _ (jP h2 hn rfl) (.cons _ _ m _ _ _ (jP h3 hm rfl) .nil)))
      (.cons .str _ s _ _ _ (jP h4 hs rfl) (.cons _ _ l _ _ _ (jP h5 hl rfl) .nil)))
    ·cases he
   ·cases he
theorem yZ{τ:Ty}{d:D}{v:Value}{x:den τ}(h:RD κ d v)(hx:gP τ d=some x):RD κ (.zi τ x) v:=by
 have key:(∀ σ y,d≠.zi σ y)→(bif (d.isAgg==τ.isAgg) && !d.vN then(match uJ τ (zW d)with | some (x,[])=>some x | _=>none)else none)=some x→RD κ (.zi τ x) v:=by
  intro hni hx
  cases hc:(d.isAgg==τ.isAgg) && !d.vN with
  | false=>rw[hc]at hx; cases hx
  | true =>
  rw[hc]at hx
  simp only[cond_true]at hx
  simp only[Bool.and_eq_true,beq_iff_eq,Bool.not_eq_true']at hc
  obtain⟨O7,Va⟩:=hc
  split at hx
  ·rename_i y hy
   cases hx
   obtain⟨c1,c2,he,h1,h2⟩:=mu τ (uD h Va) hy
   have e2:=h2.qo
   subst e2
   rw[List.append_nil]at he
   have hv:v=pk τ c1:=by
    rw[← he]
    cases hd:d.isAgg with
    | true =>
     cases d<;>simp[D.isAgg]at hd
     cases h with | agg l vs hl ho h=>simp[pk,D.isAgg]at O7 ⊢; simp[← O7,Value.cells]
    | false =>
     rw[hd]at O7
     simp only[pk,← O7,Bool.false_eq_true,if_false]
     cases h<;>first | rfl | (rw[ZY]; rfl) | (rename_i hu; rw[XT hu]; rfl) | (rename_i σ y cs hc; exact absurd rfl (hni σ y)) | (simp[D.isAgg]at hd; done) | (simp[D.vN]at Va; done)
   rw[hv]
   exact .zi τ _ c1 h1
  ·cases hx
 cases d with
 | zi σ y=>obtain⟨rfl,rfl⟩:=qe hx; exact h
 | _=>exact key (fun _ _=>nofun) hx
end
end Go.AM
namespace Go.AM
set_option linter.unusedSectionVars false
variable [vP]
def qy(P:Program)(s:Sem Next)(κ:KS)(d:Option D)(zu:St):Prop :=
 ∃ (κ':KS) (n:Next) (v:Value),s.run P κ.w=.ok n κ'.w∧(n=.value v∨(n=.skip∧v=undef))∧κ'.st=zu∧Inv κ'∧Ext κ κ'∧∀ d',d=some d'→RD κ' d' v
section
variable {c:Ctx} {κ:KS}
theorem qy.pure{s:Sem Value}{d:D}{v:Value}(hi:Inv κ)(h:s.run c.P κ.w=.ok v κ.w)(hd:RD κ d v):qy c.P (do Pure.pure (.value (← s))) κ (some d) κ.st :=
 ⟨κ,.value v,v,by simp[h],.inl rfl,rfl,hi,Ext.refl κ,fun _ he=>by cases he; exact hd⟩
theorem qy.val{d:Option D}{v:Value}(hi:Inv κ)(hd:∀ d',d=some d'→RD κ d' v):qy c.P (Pure.pure (.value v)) κ d κ.st :=
 ⟨κ,.value v,v,rfl,.inl rfl,rfl,hi,Ext.refl κ,hd⟩
theorem bA{t n:Nat}(h:cR c t=some n):∃ i,c.P.info? t=some i∧i.size=n:=by
 unfold cR at h
 cases hi:c.P.info? t with
 | none=>simp[hi]at h
 | some i=>exact⟨i,rfl,by simpa[hi]using h⟩
theorem run_sizeOf{t n:Nat}(h:cR c t=some n)(w:World):(sizeOf t).run c.P w=.ok n w:=by
 obtain⟨i,h1,h2⟩:=bA h
 simp[sizeOf,typeInfo,h1,h2]
theorem mL{t:Nat}{b:Bool}(h:K0 c t=some b)(w:World):(isAgg t).run c.P w=.ok b w:=by
 unfold K0 at h
 cases hu:c.P.underlying t with
 | none=>simp[hu]at h
 | some d =>
  simp only[isAgg,Sem.run_bind,run_underlying hu,Result.andThen_ok]
  cases d<;>simp[hu]at h<;>simp[← h]
theorem wY{t:Nat}{τ:Ty}(h:jb c t τ=true):cR c t=some τ.size∧K0 c t=some τ.isAgg:=by
 unfold jb at h
 simp only[Bool.and_eq_true]at h
 obtain⟨⟨_,h1⟩,h2⟩:=h
 constructor
 ·split at h1
  ·rename_i n hn; rw[hn,Nat.eq_of_beq_eq_true h1]
  ·cases h1
 ·split at h2
  ·rename_i b hb; rw[hb]; simpa using h2
  ·cases h2
theorem pB{t:Nat}{τ:Ty}(h:jb c t τ=true):Oq τ t:=by
 unfold jb at h
 simp only[Bool.and_eq_true]at h
 intro e
 subst e
 exact Nat.eq_of_beq_eq_true h.1.1
omit [vP]in
theorem ve(blk o j:Nat):(⟨blk,o,none⟩:Addr).add j=⟨blk,o+j,none⟩:=by unfold Addr.add; split<;>simp_all
theorem cF{t:Nat}{b:Bool}{n blk o:Nat}{cs:List Value}(ha:K0 c t=some b)(hn:cR c t=some n)(hl:cs.length=n)(h1:b=false→n=1)
  (hc:∀ j v,cs[j]? = some v→κ.w.cell? ⟨blk,o+j,none⟩=some v) :
  (loadVar t ⟨blk,o,none⟩).run c.P κ.w=.ok (if b then .agg cs.toArray else cs.headD undef) κ.w:=by
 simp only[loadVar,Sem.run_bind,mL ha,Result.andThen_ok]
 cases b with
 | true =>
  simp only[if_true,Sem.run_bind,run_sizeOf hn,Result.andThen_ok]
  rw[← hl,run_loadCells_list κ.w ⟨blk,o,none⟩ cs (fun j v hj=>by rw[ve]; exact hc j v hj)]
  simp
 | false =>
  have:=h1 rfl
  subst this
  match cs,hl with
  | [v],_ =>
   have:=hc 0 v rfl
   simp only[Nat.add_zero]at this
   simp[this]
theorem Ef{t:Nat}{τ:Ty}{x:den τ}{cs:List Value}{blk o:Nat}(ht:jb c t τ=true)(h:Rc κ.w κ.ok τ x cs)
  (hc:∀ j v,cs[j]? = some v→κ.w.cell? ⟨blk,o+j,none⟩=some v):(loadVar t ⟨blk,o,none⟩).run c.P κ.w=.ok (pk τ cs) κ.w:=by
 obtain⟨h1,h2⟩:=wY ht
 rw[cF (c:=c) h2 h1 h.len (fun e=>sV e) hc]
 cases he:τ.isAgg<;>simp[pk,he]
theorem we{t:T (Option D)}{st zu:St}{d:Option D}:(zG (.val t) st).leads (d,zu)↔t.leads d∧zu=st:=by
 simp only[zG,T.zH,T.leads,Prod.mk.injEq]
 constructor
 ·rintro⟨a,h,rfl,rfl⟩; exact⟨h,rfl⟩
 ·rintro⟨h,rfl⟩; exact⟨d,h,rfl,rfl⟩
theorem dQ{k:St→T (Option D)}{st zu:St}{d:Option D}:(zG (.rd k) st).leads (d,zu)↔(k st).leads d∧zu=st:=by
 simp only[zG,T.zH,T.leads,Prod.mk.injEq]
 constructor
 ·rintro⟨a,h,rfl,rfl⟩; exact⟨h,rfl⟩
 ·rintro⟨h,rfl⟩; exact⟨d,h,rfl,rfl⟩
theorem zg{st:St}{r:Option D×St}:¬ (zG bad st).leads r:=by obtain⟨d,zu⟩:=r; rw[bad,we]; exact fun h=>h.1
theorem xD{x:D}{st zu:St}{d:Option D}:(zG (AM.val x) st).leads (d,zu)↔d=some x∧zu=st:=by
 rw[AM.val,we]; simp only[T.leads]; exact⟨fun h=>⟨h.1.symm,h.2⟩,fun h=>⟨h.1.symm,h.2⟩⟩
theorem wC{p:Prop}{x:D}{st zu:St}{d:Option D}:(zG (.val (.zj p (.ret (some x)))) st).leads (d,zu)↔p∧d=some x∧zu=st:=by
 rw[we]; simp only[T.leads]
 exact⟨fun h=>⟨h.1.1,h.1.2.symm,h.2⟩,fun h=>⟨⟨h.1,h.2.1.symm⟩,h.2.2⟩⟩
theorem QQ{x:Option D}{st zu:St}{d:Option D}(h:(zG (LA x) st).leads (d,zu)):∃ y,x=some y∧d=some y∧zu=st:=by
 cases x with
 | none=>exact absurd h zg
 | some y=>rw[LA,we]at h; exact⟨y,rfl,h.1.symm,h.2⟩
theorem tV:∀ (τ:Ty) (x:den τ) {cs:List Value},qG κ (flat τ x) cs→Rc κ.w κ.ok τ x cs
 | .int k,x,cs,h=>by obtain⟨v,r,rfl,h1,h2⟩:=h.cons_inv; rw[h2.qo]; exact h1.wU rfl
 | .bool,x,cs,h=>by obtain⟨v,r,rfl,h1,h2⟩:=h.cons_inv; rw[h2.qo]; exact h1.wU rfl
 | .str,x,cs,h=>by obtain⟨v,r,rfl,h1,h2⟩:=h.cons_inv; rw[h2.qo]; exact h1.wU rfl
 | .sl e,x,cs,h=>by obtain⟨v,r,rfl,h1,h2⟩:=h.cons_inv; rw[h2.qo]; exact h1.wU rfl
 | .nil,x,cs,h=>by rw[h.qo]; exact .nil
 | .cons a b,x,cs,h=>by
  obtain⟨c1,c2,rfl,h1,h2⟩:=qG.GX h
  exact .cons a b x.1 x.2 c1 c2 (tV a x.1 h1) (tV b x.2 h2)
 | .expr,.mk k (a,n,m,()) s l,cs,h=>by
  obtain⟨v,u,rfl,h0,t0⟩:=h.cons_inv
  obtain⟨v1,u1,rfl,h1,t1⟩:=t0.cons_inv
  obtain⟨v2,u2,rfl,h2,t2⟩:=t1.cons_inv
  obtain⟨v3,u3,rfl,h3,t3⟩:=t2.cons_inv
  obtain⟨v4,u4,rfl,h4,t4⟩:=t3.cons_inv
  obtain⟨v5,u5,rfl,h5,t5⟩:=t4.cons_inv
  rw[t5.qo]
  have e:[v,v1,v2,v3,v4,v5]=[v]++(([v1]++([v2]++([v3]++[])))++([v4]++([v5]++[]))):=rfl
  rw[e]
  exact .expr _ _ _ _ _ (.cons i64 _ k _ _ _ (h0.wU rfl) (.cons WA _ (a,n,m,()) _ _ _ (.cons .bool _ a _ _ _ (h1.wU rfl) (.cons (.sl u32) (.cons (.sl u32) .nil) n (m,()) [v2] ([v3]++[]) (h2.wU rfl) (.cons (.sl u32) .nil m () [v3] [] (h3.wU rfl) .nil)))
      (.cons .str _ s _ _ _ (h4.wU rfl) (.cons (.sl .expr) .nil l () [v5] [] (h5.wU rfl) .nil))))
theorem B6{t:Nat}{d r:D}{off:Nat}{vs:List Value}(h:Yf c t d off=some r)(hd:qG κ (zW d) vs)(iI:∀ x∈zW d,x.one=true) :
  (∃ n,K0 c t=some true∧cR c t=some n∧off+n≤vs.length∧RD κ r (.agg ((vs.drop off).take n).toArray)) ∨
  (∃ v,K0 c t=some false∧vs[off]? = some v∧RD κ r v):=by
 unfold Yf at h
 split at h
 ·rename_i ha
  split at h
  ·cases h
  ·rename_i n hn
   refine .inl ⟨n,ha,hn,?_⟩
   cases hb:(Nat.beq off 0&&Nat.beq n (zW d).length&&d.z1x)with
   | true =>
    rw[hb]at h
    simp only[cond_true,Option.some.injEq]at h
    subst h
    simp only[Bool.and_eq_true]at hb
    obtain⟨⟨h1,h2⟩,h3⟩:=hb
    have e1:off=0:=Nat.eq_of_beq_eq_true h1
    have e2:n=(zW d).length:=Nat.eq_of_beq_eq_true h2
    subst e1
    have hl:=hd.1
    rw[e2,hl]
    refine⟨by omega,?_⟩
    simp only[List.drop_zero,List.take_length]
    cases d with
    | zi τ x =>
     have:=RD.zi τ x vs (tV τ x hd)
     simpa[pk,show τ.isAgg=true from h3]using this
    | agg l=>exact .agg l vs hl iI hd.2
    | _=>cases h3
   | false =>
    rw[hb]at h
    simp only[cond_false]at h
    split at h
    ·rename_i l hl
     cases h
     unfold XY at hl
     cases hle:Nat.ble (off+n) (zW d).length with
     | false=>rw[hle]at hl; cases hl
     | true =>
      rw[hle]at hl
      cases hl
      have Xz:=Nat.le_of_ble_eq_true hle
      refine⟨by rw[← hd.1]; exact Xz,?_⟩
      have ht:=(hd.drop off).take n
      exact .agg _ _ ht.1 (fun x hx=>iI x (List.mem_of_mem_drop (List.mem_of_mem_take hx))) ht.2
    ·cases h
 ·rename_i ha
  obtain⟨v,h1,h2⟩:=hd.get h
  exact .inr ⟨v,ha,h1,h2⟩
 ·cases h
theorem Qv{t:Nat}{d r:D}{off blk:Nat}{vs:List Value}(base:Nat)(h:Yf c t d off=some r)(hd:qG κ (zW d) vs)(iI:∀ x∈zW d,x.one=true)
  (hc:∀ j v,vs[j]? = some v→κ.w.cell? ⟨blk,base+j,none⟩=some v):∃ v,(loadVar t ⟨blk,base+off,none⟩).run c.P κ.w=.ok v κ.w∧RD κ r v:=by
 rcases B6 h hd iI with⟨n,ha,hn,hle,hr⟩ | ⟨v,ha,hv,hr⟩
 ·refine⟨_,?_,hr⟩
  rw[cF (c:=c) (b:=true) (cs:=(vs.drop off).take n) ha hn (by simp; omega) nofun]
  ·simp
  ·intro j v hj
   rw[Nat.add_assoc]
   refine hc _ _ ?_
   rw[List.getElem?_take]at hj
   split at hj
   ·rwa [List.getElem?_drop]at hj
   ·cases hj
 ·refine⟨v,?_,hr⟩
  simp only[loadVar,Sem.run_bind,mL ha,Result.andThen_ok]
  simp[hc off v hv]
theorem mj{blk:Nat}{cs:Array Value}{t:TypeId}{fz:Nat×Nat}(h:κ.w.heap[blk]? = some (.cells cs t fz))(o:Nat):κ.w.cell? ⟨blk,o,none⟩=cs[o]? := by
 simp[World.cell?,h]
theorem CU{t:Nat}{x:Option D}{v:Value}{d:Option D}{zu:St}(hi:Inv κ)(hx:∀ y,x=some y→RD κ y v)(h:(zG (Qm c t x) κ.st).leads (d,zu)) :
  qy c.P (do Pure.pure (.value (← Instr.loadAt t v))) κ d zu:=by
 unfold Qm at h
 split at h
 ·rename_i τ y
  cases ht:jb c t τ with
  | false=>rw[ht]at h; exact absurd h zg
  | true =>
   rw[ht,cond_true,xD]at h
   obtain⟨rfl,rfl⟩:=h
   cases hx _ rfl with
   | qK _ _ cs blk off w8 hr hc =>
    exact qy.pure hi (by simp[Instr.loadAt,Instr.sureAddr,Ef ht hr hc]) (.zi τ y cs hr)
 ·rename_i b off
  rw[dQ]at h
  obtain⟨h,rfl⟩:=h
  split at h
  ·rename_i d0 hb
   split at h
   ·rename_i r hr
    cases h
    cases hx _ rfl with
    | ptr _ _ blk n d1 hd hp =>
     obtain⟨iu,n',cs,T,g1,g2,g3,g4,g5⟩:=hi.blk b _ hb
     rw[hp]at g1
     cases g1
     obtain⟨v,h1,h2⟩:=Qv (c:=c) (blk:=blk) 0 hr g4 g5.1 (fun j v hj=>by rw[mj g2]; simpa using hj)
     rw[Nat.zero_add]at h1
     exact qy.pure hi (by simp[Instr.loadAt,Instr.sureAddr,h1]) h2
   ·exact h.elim
  ·exact h.elim
 ·rename_i b qs e idx off
  rw[dQ]at h
  obtain⟨h,rfl⟩:=h
  split at h
  ·rename_i uZ e' xs hb
   cases he:decide (e'=e)with
   | false=>rw[he]at h; exact h.elim
   | true =>
    rw[he,cond_true]at h
    have Ea:e'=e:=of_decide_eq_true he
    subst Ea
    obtain⟨⟨rfl,qh⟩,h⟩:=h
    split at h
    ·rename_i r hr
     cases h
     cases hx _ rfl with
     | vM _ _ _ _ _ blk o hold hp =>
      obtain⟨n,p1,rfl⟩:=hp xs hb qh
      obtain⟨uj,⟨X6,_⟩ | ⟨iu,n',cs,T,g1,g2,g3,g4,gr,f,g5⟩⟩:=hi.blk b _ hb
      ·subst X6; cases qh
      ·rw[p1]at g1
       cases g1
       have hg:xs.getD idx (zA e')=xs[idx]:=by simp[List.getD,List.getElem?_eq_getElem qh]
       rw[hg]at hr
       obtain⟨k1,k2⟩:=g5 idx qh
       obtain⟨v,h1,h2⟩:=Qv (c:=c) (blk:=blk) (idx*e'.size) hr (lj k1) (gH _ _) (fun j v hj=>by rw[mj g2]; exact k2 j v hj)
       exact qy.pure hi (by simp[Instr.loadAt,Instr.sureAddr,h1]) h2
    ·exact h.elim
  ·exact h.elim
 ·exact absurd h zg
end
end Go.AM
namespace Go.AM
set_option linter.unusedSectionVars false
variable [vP]
section
variable {c:Ctx} {κ:KS}
theorem VG{s f o n:Nat}(h:tY c s f=some (o,n)):∃ fs fd,c.P.underlying s=some (.struct fs)∧fs[f]? = some fd∧cR c fd.type=some n∧n≠0∧fd.offset=o:=by
 unfold tY at h
 split at h
 ·rename_i fs hu
  split at h
  ·rename_i fd hf
   split at h
   ·rename_i m hm
    cases hb:Nat.beq m 0 with
    | true=>rw[hb]at h; cases h
    | false =>
     rw[hb]at h
     cases h
     refine⟨fs,fd,hu,hf,hm,?_,rfl⟩
     intro e
     subst e
     cases hb
   ·cases h
  ·cases h
 ·cases h
theorem lO{s f o n blk p:Nat}(h:tY c s f=some (o,n))(w:World) :
  (Instr.fieldAt s (.pointer (some ⟨blk,p,none⟩)) f).run c.P w=.ok (.pointer (some ⟨blk,p+o,none⟩)) w:=by
 obtain⟨fs,fd,h1,h2,h3,h4,h5⟩:=VG h
 simp[Instr.fieldAt,run_underlying h1,h2,Instr.sureAddr,fieldPlace,run_sizeOf h3,h4,ve,h5]
theorem ZJ:∀ (τ:Ty) (x:den τ) (n:Nat) {d:D} {o s:Nat} {cs:List Value},lA τ x n=some (d,o,s)→Rc κ.w κ.ok τ x cs →
  ∃ (σ:Ty) (y:den σ) (c2:List Value),d=.qK σ y∧Rc κ.w κ.ok σ y c2∧s=σ.size∧∀ j v,c2[j]? = some v→cs[o+j]? = some v
 | .cons a b,x,0,d,o,s,cs,h,hr=>by
  simp only[lA]at h
  cases h
  obtain⟨c1,c2,rfl,h1,h2⟩:=hr.cons_inv
  exact⟨a,x.1,c1,rfl,h1,rfl,fun j v hj=>by
   obtain⟨qh,_⟩:=List.getElem?_eq_some_iff.1 hj
   rw[Nat.zero_add,List.getElem?_append_left qh]; exact hj⟩
 | .cons a b,x,n+1,d,o,s,cs,h,hr=>by
  simp only[lA]at h
  split at h
  ·rename_i d' o' s' h'
   cases h
   obtain⟨c1,c2,rfl,h1,h2⟩:=hr.cons_inv
   obtain⟨σ,y,c3,e1,e2,e3,e4⟩:=ZJ b x.2 n h' h2
   refine⟨σ,y,c3,e1,e2,e3,fun j v hj => ?_⟩
   have:=h1.len
   rw[List.getElem?_append_right (by omega)]
   have e:a.size+o'+j-c1.length=o'+j:=by omega
   rw[e]; exact e4 j v hj
  ·cases h
 | .expr,.mk k (a,n,m,()) s l,i,d,o,z,cs,h,hr=>by
  obtain⟨c1,r1,rfl,h1,t1⟩:=hr.Jp.cons_inv
  obtain⟨c2,r2,rfl,h2,t2⟩:=t1.cons_inv
  obtain⟨c3,r3,rfl,h3,t3⟩:=t2.cons_inv
  obtain⟨c4,r4,rfl,h4,t4⟩:=t3.cons_inv
  have e4:=t4.qo
  subst e4
  have l2:c2.length=3:=h2.len
  obtain⟨v1,rfl⟩:=h1.single rfl
  obtain⟨v3,rfl⟩:=h3.single rfl
  obtain⟨v4,rfl⟩:=h4.single rfl
  match i,h with
  | 0,h=>simp only[lA]at h; cases h; exact⟨i64,_,_,rfl,h1,rfl,fun j v hj=>by match j,hj with | 0,hj=>simpa using hj⟩
  | 1,h => 
   simp only[lA]at h; cases h
   refine⟨WA,_,_,rfl,h2,rfl,fun j v hj => ?_⟩
   obtain⟨qh,_⟩:=List.getElem?_eq_some_iff.1 hj
   rw[show 1+j=j+1 by omega]
   simp only[List.cons_append,List.nil_append,List.getElem?_cons_succ]
   rw[List.getElem?_append_left qh]; exact hj
  | 2,h =>
   simp only[lA]at h; cases h
   refine⟨.str,_,_,rfl,h3,rfl,fun j v hj => ?_⟩
   match j,hj with
   | 0,hj =>
    simp only[List.cons_append,List.nil_append,Nat.add_zero,List.getElem?_cons_succ]
    rw[List.getElem?_append_right (by omega),l2]; simpa using hj
  | 3,h =>
   simp only[lA]at h; cases h
   refine⟨.sl .expr,_,_,rfl,h4,rfl,fun j v hj => ?_⟩
   match j,hj with
   | 0,hj =>
    simp only[List.cons_append,List.nil_append,Nat.add_zero,List.getElem?_cons_succ]
    rw[List.getElem?_append_right (by omega),l2]; simpa using hj
  | n+4,h=>simp[lA]at h
 | .int _,_,_,_,_,_,_,h,_ | .bool,_,_,_,_,_,_,h,_ | .str,_,_,_,_,_,_,h,_ | .sl _,_,_,_,_,_,_,h,_ | .nil,_,_,_,_,_,_,h,_=>by simp[lA]at h
theorem ZW{s f:Nat}{x:Option D}{v:Value}{d:Option D}{zu:St}(hi:Inv κ)(hx:∀ y,x=some y→RD κ y v)(h:(zG (iH c s f x) κ.st).leads (d,zu)) :
  qy c.P (do Pure.pure (.value (← Instr.fieldAt s v f))) κ d zu:=by
 unfold iH at h
 split at h
 ·exact absurd h zg
 ·rename_i o n hf
  split at h
  ·rename_i τ y
   split at h
   ·rename_i d' o' n' Uw
    cases hb:Nat.beq o o'&&Nat.beq n n' with
    | false=>rw[hb]at h; exact absurd h zg
    | true =>
     rw[hb,cond_true,xD]at h
     obtain⟨rfl,rfl⟩:=h
     simp only[Bool.and_eq_true]at hb
     have e1:o=o':=Nat.eq_of_beq_eq_true hb.1
     subst e1
     cases hx _ rfl with
     | qK _ _ cs blk off w8 hr hc =>
      obtain⟨σ,z,c2,rfl,g1,g2,g3⟩:=ZJ τ y f Uw hr
      exact qy.pure hi (lO hf κ.w) (.qK σ z c2 blk (off+o) w8 g1 fun j u hj=>by rw[Nat.add_assoc]; exact hc _ _ (g3 j u hj))
   ·exact absurd h zg
  ·rename_i b off
   rw[xD]at h
   obtain⟨rfl,rfl⟩:=h
   cases hx _ rfl with
   | ptr _ _ blk n d hd hp=>exact qy.pure hi (lO hf κ.w) (.ptr b (off+o) blk n d hd hp)
  ·rename_i b qs e idx off
   rw[xD]at h
   obtain⟨rfl,rfl⟩:=h
   cases hx _ rfl with
   | vM _ _ _ _ _ blk p hold hp =>
    refine qy.pure hi (lO hf κ.w) (.vM b qs e idx (off+o) blk (p+o) hold fun xs h1 h2 => ?_)
    obtain⟨n,h3,h4⟩:=hp xs h1 h2
    exact⟨n,h3,by omega⟩
  ·exact absurd h zg
theorem YZ{s f:Nat}{x:Option D}{v:Value}{d:Option D}{zu:St}(hi:Inv κ)(hx:∀ y,x=some y→RD κ y v)(h:(zG (Vs c s f x) κ.st).leads (d,zu)) :
  qy c.P (do Pure.pure (.value (← Instr.field s v f))) κ d zu:=by
 unfold Vs at h
 split at h
 ·rename_i fs hu
  split at h
  ·rename_i fd hf
   split at h
   ·rename_i y
    obtain⟨r,hr,rfl,rfl⟩:=QQ h
    cases N4:y.gU with
    | false=>rw[N4]at hr; cases hr
    | true =>
    rw[N4,cond_true]at hr
    have hy:=hx _ rfl
    have ⟨vs,hv,hvs⟩:∃ vs,v=.agg vs∧qG κ (zW y) vs.toList:=by
     have ON:=uD hy (by cases y<;>simp[D.gU,D.vN]at N4 ⊢)
     cases hy<;>simp[D.gU]at N4
     ·rename_i τ z cs hc
      exact⟨cs.toArray,by simp[pk,N4],by simpa[pk,N4,Value.cells]using ON⟩
     ·rename_i l vs hl ho hh
      exact⟨vs.toArray,rfl,by simpa[Value.cells]using ON⟩
    subst hv
    rcases B6 hr hvs (uz hy)with⟨n,ha,hn,hle,T8⟩ | ⟨u,ha,Nq,T8⟩
    ·refine qy.pure hi ?_ T8
     simp only[Instr.field,Sem.run_bind,run_underlying hu,Result.andThen_ok,hf,asAgg,Sem.run_pure,part,mL ha,if_true,run_sizeOf hn]
     congr 2
     apply Array.ext'
     simp[Array.toList_extract,List.extract]
    ·refine qy.pure hi ?_ T8
     have:vs[fd.offset]? = some u:=by simpa using Nq
     simp[Instr.field,run_underlying hu,hf,asAgg,part,mL ha,this]
   ·exact absurd h zg
  ·exact absurd h zg
 ·exact absurd h zg
theorem vI{t e:Nat}(h:cu c t=some e):c.P.underlying t=some (.slice e):=by
 unfold cu at h
 split at h
 ·rename_i e' hu; cases h; exact hu
 ·cases h
theorem vE{x:Option D}{k:IntKind}{n:Int}{v:Value}(h:asInt x=some (k,n))(hx:∀ y,x=some y→RD κ y v):v=.int k n:=by
 unfold asInt at h
 split at h
 ·cases h; exact(hx _ rfl).cD
 ·cases h
theorem lf{x:Option D}{s:zh}{v:Value}(h:ZB x=some s)(hx:∀ y,x=some y→RD κ y v):v=.string ⟨s.toArray⟩:=by
 unfold ZB at h
 split at h
 ·cases h; exact(hx _ rfl).jT
 ·cases h
theorem mF{x:Option D}{b:Bool}{v:Value}(h:asBool x=some b)(hx:∀ y,x=some y→RD κ y v):v=.bool b:=by
 unfold asBool at h
 split at h
 ·cases h; exact(hx _ rfl).ya
 ·cases h
theorem tR{α:Type}{l:List α}{i:Nat}(h:i<l.length)(d:α):List.getD l i d=l[i]:=by simp[List.getD,List.getElem?_eq_getElem h]
theorem lY{a:Ty}(x:den a):(wS x:Option (den a))=some x:=by simp[wS]
theorem J4{w:World}{ok:Nat→Prop}:∀ (τ:Ty) (e:Ty) (n:Nat) (x:den τ) (cs:List Value) (i:Nat),US τ=some (e,n)→Rc w ok τ x cs→i<n →
  ∃ c,Rc w ok e (lF e τ x i) c∧∀ j v,c[j]? = some v→cs[i*e.size+j]? = some v
 | .cons a b,e,n,x,cs,i,ht,hr,hi=>by
  obtain⟨c1,c2,rfl,h1,h2⟩:=hr.cons_inv
  have key:∀ m,(b=.nil∧m=0∨US b=some (a,m))→i<m+1→∃ c,Rc w ok a (lF a (.cons a b) x i) c∧∀ j v,c[j]? = some v→(c1++c2)[i*a.size+j]? = some v:=by
   intro m hm hi
   cases i with
   | zero =>
    refine⟨c1,by simp only[lF,lY]; exact h1,fun j v hj => ?_⟩
    rw[Nat.zero_mul,Nat.zero_add,List.getElem?_append_left (List.getElem?_eq_some_iff.1 hj).1]; exact hj
   | succ i =>
    rcases hm with⟨rfl,rfl⟩ | hm
    ·omega
    ·obtain⟨c,g1,g2⟩:=J4 b a m x.2 c2 i hm h2 (by omega)
     refine⟨c,g1,fun j v hj => ?_⟩
     have hl:=h1.len
     have:=g2 j v hj
     rw[List.getElem?_append_right (by rw[hl,Nat.add_mul]; omega),hl]
     rw[← this]; congr 1
     rw[Nat.add_mul]; omega
  unfold US at ht
  split at ht
  ·cases ht; exact key 0 (.inl ⟨rfl,rfl⟩) (by omega)
  ·split at ht
   ·rename_i e' m hb
    cases hd:decide (a=e')with
    | false=>rw[hd]at ht; cases ht
    | true =>
     rw[hd,cond_true]at ht
     cases ht
     have:=of_decide_eq_true hd
     subst this
     exact key m (.inr hb) hi
   ·cases ht
 | .int _,_,_,_,_,_,ht,_,_=>by cases ht
 | .bool,_,_,_,_,_,ht,_,_=>by cases ht
 | .str,_,_,_,_,_,ht,_,_=>by cases ht
 | .sl _,_,_,_,_,_,ht,_,_=>by cases ht
 | .nil,_,_,_,_,_,ht,_,_=>by cases ht
 | .expr,_,_,_,_,_,ht,_,_=>by cases ht
theorem Dq{t n e:Nat}(h:Pd c t=some (n,e)):c.P.underlying t=some (.array n e):=by
 unfold Pd at h
 split at h
 ·rename_i hu; cases h; exact hu
 ·cases h
theorem Xo{t:Nat}{x i:Option D}{k:IntKind}{n:Int}{v u:Value}{d:Option D}{zu:St}(hi:Inv κ)(hx:∀ y,x=some y→RD κ y v)(hy:∀ y,i=some y→RD κ y u)(Xr:asInt i=some (k,n))
  (h:(zG (ZC c t x n) κ.st).leads (d,zu)):qy c.P (do Pure.pure (.value (← Instr.indexAt t v u))) κ d zu:=by
 have Nq:=vE Xr hy
 subst Nq
 unfold ZC at h
 split at h
 ·rename_i m et τ y ha
  have hu:=Dq ha
  split at h
  ·rename_i e m' DN
   cases ht:jb c et e&&Nat.beq m m' with
   | false=>rw[ht]at h; exact absurd h zg
   | true =>
    rw[ht,cond_true,wC]at h
    simp only[Bool.and_eq_true]at ht
    have:=Nat.eq_of_beq_eq_true ht.2
    subst this
    obtain⟨⟨h0,h1⟩,rfl,rfl⟩:=h
    obtain⟨hs,_⟩:=wY ht.1
    cases hx _ rfl with
    | qK _ _ cs blk off w8 Y9 hc =>
     obtain⟨cc,g1,g2⟩:=J4 τ e m y cs n.toNat DN Y9 (by omega)
     refine qy.pure hi ?_ (.qK e _ cc blk (off+n.toNat*e.size) w8 g1 fun j v hj=>by rw[Nat.add_assoc]; exact hc _ v (g2 j v hj))
     simp[Instr.indexAt,asIntOf,run_underlying hu,h0,h1,run_sizeOf hs,ve,Instr.sureAddr]
  ·exact absurd h zg
 ·exact absurd h zg
theorem QU{t:Nat}{x i:Option D}{v u:Value}{d:Option D}{zu:St}(hi:Inv κ)(hx:∀ y,x=some y→RD κ y v)(hy:∀ y,i=some y→RD κ y u)
  (h:(zG (lQ c t x i) κ.st).leads (d,zu)):qy c.P (do Pure.pure (.value (← Instr.indexAt t v u))) κ d zu:=by
 unfold lQ at h
 split at h
 ·rename_i k n het Xr
  exact Xo hi hx hy Xr h
 ·rename_i et k n het Xr
  have hu:=vI het
  have Nq:=vE Xr hy
  subst Nq
  split at h
  ·rename_i e l
   cases ht:jb c et e with
   | false=>rw[ht]at h; exact absurd h zg
   | true =>
    rw[ht,cond_true,wC]at h
    obtain⟨⟨h0,h1⟩,rfl,rfl⟩:=h
    obtain⟨hs,_⟩:=wY ht
    have qh:n.toNat<List.length l:=by omega
    rcases((hx _ rfl).wU rfl).rX with⟨rfl,_⟩ | ⟨blk,off,cap,f,he,w8,vx,hh,hc⟩
    ·cases qh
    ·cases he
     rw[tR qh]
     refine qy.pure hi ?_ (.qK e _ (f n.toNat) blk (off+n.toNat*e.size) w8 (hh _ qh) fun j v hj=>hc _ qh j v hj)
     simp[Instr.indexAt,asIntOf,run_underlying hu,h0,h1,run_sizeOf hs,ve]
  ·rename_i e l ne
   cases ht:jb c et e with
   | false=>rw[ht]at h; exact absurd h zg
   | true =>
    rw[ht,cond_true,wC]at h
    obtain⟨⟨h0,h1⟩,rfl,rfl⟩:=h
    obtain⟨hs,_⟩:=wY ht
    have qh:n.toNat<List.length l:=by omega
    cases hx _ rfl with
    | qW=>cases qh
    | tight _ _ _ blk off f u7 w8 hh hc =>
     rw[tR qh]
     refine qy.pure hi ?_ (.qK e _ (f n.toNat) blk (off+n.toNat*e.size) w8 (hh _ qh) fun j v hj=>hc _ qh j v hj)
     simp[Instr.indexAt,asIntOf,run_underlying hu,h0,h1,run_sizeOf hs,ve]
  ·rename_i b qs e off len
   cases ht:jb c et e with
   | false=>rw[ht]at h; exact absurd h zg
   | true =>
    rw[ht,cond_true,wC]at h
    obtain⟨⟨h0,h1⟩,rfl,rfl⟩:=h
    obtain⟨hs,_⟩:=wY ht
    cases hx _ rfl with
    | ms _ _ _ _ _ cap a hold vx ha mZ hm =>
     cases a with
     | none=>have:=ha rfl; omega
     | some p =>
      have hp:=mZ p rfl
      obtain⟨blk,o,sp⟩:=p
      simp only at hp
      subst hp
      refine qy.pure hi (v:=.pointer (some ⟨blk,o+n.toNat*e.size,none⟩)) ?_ (.vM b qs e (off+n.toNat) 0 blk _ hold fun xs hb qh => ?_)
      ·simp[Instr.indexAt,asIntOf,run_underlying hu,h0,h1,run_sizeOf hs,ve]
      ·obtain⟨hle,⟨_,_,hv,_⟩ | ⟨iu,n',o',Dg,h3,h4,h5,h6,h7⟩⟩:=hm xs hb
       ·cases hv
       ·cases h4
        refine⟨n',h3,?_⟩
        rcases h7 with h7 | h7
        ·omega
        ·subst h7; rw[Nat.add_mul]; rfl
  ·exact absurd h zg
 ·exact absurd h zg
theorem Cc(s:zh){i:Nat}(h:i<s.length):(⟨s.toArray⟩:ByteArray)[i]? = some s[i]:=by
 have uj:(⟨s.toArray⟩:ByteArray).size=s.length:=rfl
 rw[getElem?_pos _ _ (by rw[uj]; exact h)]
 rfl
theorem Yl{t:Nat}{x i:Option D}{v u:Value}{d:Option D}{zu:St}(hi:Inv κ)(hx:∀ y,x=some y→RD κ y v)(hy:∀ y,i=some y→RD κ y u)
  (h:(zG (VA c t x i) κ.st).leads (d,zu)):qy c.P (do Pure.pure (.value (← Instr.index t v u))) κ d zu:=by
 unfold VA at h
 split at h
 ·rename_i k n s Xr hs hu
  have Nq:=vE Xr hy
  subst Nq
  have hv:=lf hs hx
  subst hv
  rw[wC]at h
  obtain⟨⟨h0,h1⟩,rfl,rfl⟩:=h
  have qh:n.toNat<s.length:=by omega
  rw[tR qh]
  exact qy.pure hi (by simp[Instr.index,asIntOf,run_underlying hu,h0,Cc s qh]) RD.int
 ·exact absurd h zg
def sS(κ:KS):Option (Option D)→Option Value→Prop
 | none,none=>True
 | some x,some v=>∀ y,x=some y→RD κ y v
 | _,_=>False
theorem Zx{d n:Int}{x:Option (Option D)}{v:Option Value}(h:CL d x=some n)(hx:sS κ x v):(x=none∧v=none∧n=d)∨(x.isSome∧∃ k,v=some (.int k n)):=by
 cases x with
 | none=>cases v with
  | none=>exact .inl ⟨rfl,rfl,by simpa[CL]using h.symm⟩
  | some v=>exact hx.elim
 | some x=>cases v with
  | none=>exact hx.elim
  | some v =>
   simp only[CL]at h
   split at h
   ·rename_i k i hk; cases h; exact .inr ⟨rfl,k,by rw[vE hk hx]⟩
   ·cases h
end
end Go.AM
namespace Go.AM
set_option linter.unusedSectionVars false
variable [vP]
section
variable {c:Ctx} {κ:KS}
theorem uV{P:Program}{isS:Bool}{len cap:Nat}{lo hi mx:Option Value}{l h:Int}{m:Nat}
  (hl:(lo=none∧l=0)∨∃ k,lo=some (.int k l)) (hh:(hi=none∧mx=none∧h=len)∨∃ k,hi=some (.int k h))
  (hm:(mx=none∧m=cap)∨∃ k,mx=some (.int k m)) (h0:0≤l) (h1:l≤h) (h2:h≤m) (h3:m≤cap) (w:World) :
  (Instr.sliceBounds isS len cap lo hi mx).run P w=.ok (l.toNat,h.toNat,m) w:=by
 have hh0:(0:Int)≤h:=by omega
 have sF:l≤(h.toNat:Int):=by omega
 rcases hl with⟨rfl,rfl⟩ | ⟨k1,rfl⟩<;>rcases hm with⟨rfl,rfl⟩ | ⟨k3,rfl⟩<;>rcases hh with⟨rfl,hx,rfl⟩ | ⟨k2,rfl⟩ <;>
  first
   | (cases hx; done)
   | (simp[Instr.sliceBounds,run_sliceBound, *]; done)
   | (simp[Instr.sliceBounds,run_sliceBound, *]; rw[run_sliceBound _ _ _ _ _ h0 sF]; rfl)
theorem Jq(s:zh)(l h:Int):(⟨s.toArray⟩:ByteArray).extract l.toNat h.toNat=⟨(zS l h s).toArray⟩:=by
 apply ByteArray.ext
 rw[ByteArray.data_extract]
 apply Array.ext'
 simp[zS,List.extract,List.drop_take]
theorem ZK{n:Int}{x:Option (Option D)}{v:Option Value}(h:CL 0 x=some n)(hx:sS κ x v):(v=none∧n=0)∨∃ k,v=some (.int k n):=by
 rcases Zx h hx with⟨_,h1,h2⟩ | ⟨_,h1⟩
 ·exact .inl ⟨h1,h2⟩
 ·exact .inr h1
theorem VB{d n:Int}{x:Option (Option D)}{v:Option Value}(h:CL d x=some n)(hx:sS κ x v):(v=none∧n=d)∨∃ k,v=some (.int k n):=by
 rcases Zx h hx with⟨_,h1,h2⟩ | ⟨_,h1⟩
 ·exact .inl ⟨h1,h2⟩
 ·exact .inr h1
theorem pX{v:Option Value}(h:sS κ none v):v=none:=by cases v with | none=>rfl | some _=>exact h.elim
theorem mJ{e:Ty}{l:List (den e)}{lo hi:Int}(h0:0≤lo)(h1:lo≤hi)(h2:hi≤(l.length:Int)) :
  (jf lo hi l).length=hi.toNat-lo.toNat∧∀ i (X0:i<(jf lo hi l).length),∃ h:lo.toNat+i<l.length,(jf lo hi l)[i]=l[lo.toNat+i]:=by
 have hlen:(jf lo hi l).length=hi.toNat-lo.toNat:=by simp[jf]; omega
 refine⟨hlen,fun i X0=>⟨by omega,?_⟩⟩
 simp[jf,List.getElem_drop,List.getElem_take]
theorem YX{e:Ty}{l:List (den e)}{lo hi:Int}{blk off cap m:Nat}{f:Nat→List Value}(w8:κ.ok blk)
  (hh:∀ i (hi:i<l.length),Rc κ.w κ.ok e l[i] (f i)) (hc:∀ i,i<l.length→∀ j v,(f i)[j]? = some v→κ.w.cell? ⟨blk,off+i*e.size+j,none⟩=some v)
  (h0:0≤lo) (h1:lo≤hi) (h2:hi≤(l.length:Int)) (hm:hi≤(m:Int)) (vx:m≤cap) :
  (∀ i (X0:i<(jf lo hi l).length),Rc κ.w κ.ok e (jf lo hi l)[i] (f (lo.toNat+i))) ∧
  (∀ i,i<(jf lo hi l).length→∀ j v,(f (lo.toNat+i))[j]? = some v →
   κ.w.cell? ⟨blk,(if m=lo.toNat then off else off+lo.toNat*e.size)+i*e.size+j,none⟩=some v)∧(jf lo hi l).length≤m-lo.toNat:=by
 obtain⟨hl,hg⟩:=mJ h0 h1 h2
 refine⟨fun i X0 => ?_,fun i X0 j v hj => ?_,by omega⟩
 ·obtain⟨h3,h4⟩:=hg i X0
  rw[h4]; exact hh _ h3
 ·obtain⟨h3,h4⟩:=hg i X0
  have:=hc _ h3 j v hj
  rw[if_neg (by omega)]
  rw[Nat.add_mul,← Nat.add_assoc]at this
  exact this
theorem YV{t:Nat}{x:Option D}{lo hi mx:Option (Option D)}{v:Value}{vl vh vm:Option Value}{d:Option D}{zu:St}(hI:Inv κ)(hx:∀ y,x=some y→RD κ y v)
  (Pj:sS κ lo vl) (PU:sS κ hi vh) (Sb:sS κ mx vm)
  (h:(zG (VP c t x lo hi mx) κ.st).leads (d,zu)):qy c.P (do Pure.pure (.value (← Instr.sliceAt t v vl vh vm))) κ d zu:=by
 unfold VP at h
 split at h
 ·rename_i s
  obtain⟨s,rfl⟩:∃ s':zh,s=s':=⟨s,rfl⟩
  split at h
  ·rename_i l hh hu hl hh'
   rw[wC]at h
   obtain⟨⟨h0,h1,h2⟩,rfl,rfl⟩:=h
   have hv:=(hx _ rfl).jT
   subst hv
   have e1:=pX Sb
   subst e1
   refine qy.pure hI ?_ RD.str
   have uj:(⟨s.toArray⟩:ByteArray).size=s.length:=rfl
   have hb:=uV (P:=c.P) (isS:=false) (len:=s.length) (cap:=s.length) (mx:=none) (m:=s.length) (ZK hl Pj)
    (yE (VB hh' PU) (fun h=>⟨h.1,rfl,h.2⟩) id) (.inl ⟨rfl,rfl⟩) h0 h1 h2 (Nat.le_refl _) κ.w
   simp only[Instr.sliceAt,Sem.run_bind,run_underlying hu,Result.andThen_ok,Instr.slice,Option.isSome_none,Bool.false_eq_true,if_false,uj,hb,Jq]
   rfl
  ·exact absurd h zg
 ·rename_i e s
  split at h
  ·rename_i et l hh het hl hh'
   have hu:=vI het
   cases ht:jb c et e with
   | false=>rw[ht]at h; exact absurd h zg
   | true =>
    obtain⟨hs,_⟩:=wY ht
    rw[ht,cond_true]at h
    split at h
    ·rw[wC]at h
     obtain⟨⟨h0,h1,h2⟩,rfl,rfl⟩:=h
     have e1:=pX Sb
     subst e1
     have Xx:=ZK hl Pj
     have Xh:(vh=none∧(none:Option Value)=none∧hh=(s.length:Int))∨∃ k,vh=some (.int k hh):=yE (VB hh' PU) (fun h=>⟨h.1,rfl,h.2⟩) id
     rcases((hx _ rfl).wU rfl).rX with⟨rfl,a0,he⟩ | ⟨blk,off,cap,f,he,w8,vx,Ce,Da⟩
     ·cases he
      simp only[List.length_nil,Int.cast_ofNat_Int]at h2
      have hb:=uV (P:=c.P) (isS:=true) (len:=0) (cap:=0) (mx:=none) (m:=0) Xx Xh (.inl ⟨rfl,rfl⟩) h0 h1 h2 (Nat.le_refl _) κ.w
      have e0:l=0:=by omega
      have e2:hh=0:=by omega
      subst e0 e2
      refine qy.pure hI (v:=.slice a0 0 0) ?_ (.dW rfl (.cI e a0))
      simp[Instr.sliceAt,run_underlying hu,Instr.slice,hb,run_sizeOf hs]
     ·cases he
      obtain⟨k1,k2,k3⟩:=YX (lo:=l) (hi:=hh) (cap:=cap) (m:=cap) w8 Ce Da h0 h1 h2 (by omega) (Nat.le_refl _)
      have hb:=uV (P:=c.P) (isS:=true) (len:=s.length) (cap:=cap) (mx:=none) (m:=cap) Xx Xh (.inl ⟨rfl,rfl⟩) h0 h1 (by omega) (Nat.le_refl _) κ.w
      have hlen:=(mJ h0 h1 h2).1
      refine qy.pure hI ?_ (.dW rfl (.sl e (jf l hh s) blk _ (cap-l.toNat) _ w8 k3 k1 k2))
      simp only[Instr.sliceAt,Sem.run_bind,run_underlying hu,Result.andThen_ok,Instr.slice,hb,run_sizeOf hs,Sem.run_pure,hlen]
      congr 3
      split<;>simp[ve]
    ·split at h
     ·rename_i mx m km mi hm'
      cases hhs:hi.isSome with
      | false=>rw[hhs]at h; exact absurd h zg
      | true =>
      rw[hhs,cond_true,wC]at h
      obtain⟨⟨h0,h1,rfl,h2⟩,rfl,rfl⟩:=h
      obtain⟨vm,rfl⟩:∃ u,vm=some u:=by cases vm with | none=>exact Sb.elim | some u=>exact⟨u,rfl⟩
      have hvm:=vE hm' Sb
      subst hvm
      have Xx:=ZK hl Pj
      have Xh:(vh=none∧(some (Value.int km hh):Option Value)=none∧hh=(s.length:Int))∨∃ k,vh=some (.int k hh):=by
       rcases Zx hh' PU with⟨g1,_⟩ | ⟨_,g⟩
       ·rw[g1]at hhs; cases hhs
       ·exact .inr g
      have em:((hh.toNat:Nat):Int)=hh:=by omega
      rcases((hx _ rfl).wU rfl).rX with⟨rfl,a0,he⟩ | ⟨blk,off,cap,f,he,w8,vx,Ce,Da⟩
      ·cases he
       simp only[List.length_nil,Int.cast_ofNat_Int]at h2
       have hb:=uV (P:=c.P) (isS:=true) (len:=0) (cap:=0) (mx:=some (.int km hh)) (m:=hh.toNat) Xx Xh (.inr ⟨km,by rw[em]⟩) h0 h1 (by omega) (by omega) κ.w
       have e0:l=0:=by omega
       have e2:hh=0:=by omega
       subst e0 e2
       refine qy.pure hI (v:=.slice a0 0 0) ?_ (.qW e a0)
       simp[Instr.sliceAt,run_underlying hu,Instr.slice,hb,run_sizeOf hs]
      ·cases he
       obtain⟨k1,k2,k3⟩:=YX (lo:=l) (hi:=hh) (cap:=cap) (m:=hh.toNat) w8 Ce Da h0 h1 h2 (by omega) (by omega)
       have hb:=uV (P:=c.P) (isS:=true) (len:=s.length) (cap:=cap) (mx:=some (.int km hh)) (m:=hh.toNat) Xx Xh (.inr ⟨km,by rw[em]⟩) h0 h1 (by omega) (by omega) κ.w
       have hlen:=(mJ h0 h1 h2).1
       refine qy.pure hI ?_ (.tight e (jf l hh s) false blk _ _ nofun w8 k1 k2)
       simp only[Instr.sliceAt,Sem.run_bind,run_underlying hu,Result.andThen_ok,Instr.slice,hb,run_sizeOf hs,Sem.run_pure,hlen]
       congr 3
       split<;>simp[ve]
     ·exact absurd h zg
  ·exact absurd h zg
 ·rename_i e s ne
  split at h
  ·rename_i et l hh het hl hh'
   have hu:=vI het
   cases ht:jb c et e with
   | false=>rw[ht]at h; exact absurd h zg
   | true =>
    obtain⟨hs,_⟩:=wY ht
    rw[ht,cond_true,wC]at h
    obtain⟨⟨h0,h1,h2⟩,rfl,rfl⟩:=h
    have e1:=pX Sb
    subst e1
    have Xx:=ZK hl Pj
    have Xh:(vh=none∧(none:Option Value)=none∧hh=(s.length:Int))∨∃ k,vh=some (.int k hh):=yE (VB hh' PU) (fun h=>⟨h.1,rfl,h.2⟩) id
    cases hx _ rfl with
    | qW _ a0 =>
     simp only[List.length_nil,Int.cast_ofNat_Int]at h2
     have hb:=uV (P:=c.P) (isS:=true) (len:=0) (cap:=0) (mx:=none) (m:=0) Xx Xh (.inl ⟨rfl,rfl⟩) h0 h1 h2 (Nat.le_refl _) κ.w
     have e0:l=0:=by omega
     have e2:hh=0:=by omega
     subst e0 e2
     refine qy.pure hI (v:=.slice a0 0 0) ?_ (.dW rfl (.cI e a0))
     simp[Instr.sliceAt,run_underlying hu,Instr.slice,hb,run_sizeOf hs]
    | tight _ _ _ blk off f u7 w8 Ce Da =>
     obtain⟨k1,k2,k3⟩:=YX (lo:=l) (hi:=hh) (cap:=s.length) (m:=s.length) w8 Ce Da h0 h1 h2 (by omega) (Nat.le_refl _)
     have hb:=uV (P:=c.P) (isS:=true) (len:=s.length) (cap:=s.length) (mx:=none) (m:=s.length) Xx Xh (.inl ⟨rfl,rfl⟩) h0 h1 (by omega) (Nat.le_refl _) κ.w
     have hlen:=(mJ h0 h1 h2).1
     refine qy.pure hI ?_ (.dW rfl (.sl e (jf l hh s) blk _ (s.length-l.toNat) _ w8 k3 k1 k2))
     simp only[Instr.sliceAt,Sem.run_bind,run_underlying hu,Result.andThen_ok,Instr.slice,hb,run_sizeOf hs,Sem.run_pure,hlen]
     congr 3
     split<;>simp[ve]
  ·exact absurd h zg
 ·rename_i b qs e off len
  split at h
  ·rename_i et l hh het hl hh'
   have hu:=vI het
   cases ht:jb c et e with
   | false=>rw[ht]at h; exact absurd h zg
   | true =>
    obtain⟨hs,_⟩:=wY ht
    rw[ht,cond_true,wC]at h
    obtain⟨⟨h0,h1,h2⟩,rfl,rfl⟩:=h
    have e1:=pX Sb
    subst e1
    have Xx:=ZK hl Pj
    have Xh:(vh=none∧(none:Option Value)=none∧hh=(len:Int))∨∃ k,vh=some (.int k hh):=yE (VB hh' PU) (fun h=>⟨h.1,rfl,h.2⟩) id
    cases hx _ rfl with
    | ms _ _ _ _ _ cap a hold vx ha mZ hm =>
     have hb:=uV (P:=c.P) (isS:=true) (len:=len) (cap:=cap) (mx:=none) (m:=cap) Xx Xh (.inl ⟨rfl,rfl⟩) h0 h1 (by omega) (Nat.le_refl _) κ.w
     refine qy.pure hI (v:=.slice (if cap=l.toNat then a else a.map (·.add (l.toNat*e.size))) (hh.toNat-l.toNat) (cap-l.toNat)) ?_ (.ms b qs e _ _ _ _ hold (by omega) ?_ ?_ ?_)
     ·simp only[Instr.sliceAt,Sem.run_bind,run_underlying hu,Result.andThen_ok,Instr.slice,hb,run_sizeOf hs,Sem.run_pure]
     ·intro hn
      split at hn
      ·have:=ha hn; omega
      ·cases a with | none=>have:=ha rfl; omega | some p=>cases hn
     ·intro p hp
      split at hp
      ·exact mZ p hp
      ·cases a with
       | none=>cases hp
       | some q =>
        obtain⟨q1,q2,q3⟩:=q
        have:=mZ _ rfl
        simp only at this
        subst this
        simp only[Option.map_some,ve,Option.some.injEq]at hp
        subst hp; rfl
     ·intro xs tU
      obtain⟨hle,⟨rfl,rfl,hv,hp⟩ | ⟨iu,n',o',Dg,h3,h4,h5,h6,h7⟩⟩:=hm xs tU
      ·cases hv
       have e0:l=0:=by omega
       have e2:hh=0:=by omega
       subst e0 e2
       exact⟨by simp,.inl ⟨rfl,rfl,rfl,hp⟩⟩
      ·cases h4
       refine⟨by omega,.inr ?_⟩
       by_cases Z1:cap=l.toNat
       ·refine⟨iu,n',o',0,h3,?_,by omega,?_,.inl rfl⟩
        ·simp[Z1]
        ·have:(off+l.toNat+0)=off+cap:=by omega
         rw[this]; exact h6
       ·refine⟨iu,n',o'+l.toNat*e.size,cap-l.toNat,h3,?_,by omega,?_,.inr ?_⟩
        ·simp[Z1,ve]
        ·have:off+l.toNat+(cap-l.toNat)=off+cap:=by omega
         rw[this]; exact h6
        ·rcases h7 with h7 | h7
         ·omega
         ·rw[h7,Nat.add_mul]
  ·exact absurd h zg
 ·exact absurd h zg
end
end Go.AM
namespace Go.AM
set_option linter.unusedSectionVars false
variable [vP]
section
variable {c:Ctx} {κ:KS}
theorem ll(op:BinOp)(t:Nat)(x y:Operand)(k k':IntKind)(a b:Int)(P:Program)(w:World):(eqGuard op t x y (.int k a) (.int k' b)).run P w=.ok () w:=by
 unfold eqGuard; split<;>simp
theorem JZ(op:BinOp)(t:Nat)(x y:Operand)(a b:ByteArray)(P:Program)(w:World):(eqGuard op t x y (.string a) (.string b)).run P w=.ok () w:=by
 unfold eqGuard; split<;>simp
theorem V5(op:BinOp)(t:Nat)(x y:Operand)(a b:Bool)(P:Program)(w:World):(eqGuard op t x y (.bool a) (.bool b)).run P w=.ok () w:=by
 unfold eqGuard; split<;>simp
theorem jx{k:IntKind}{n:Int}{st zu:St}{d:Option D}:(zG (ib k n) st).leads (d,zu)↔d=some (.zi (.int k) n)∧zu=st:=xD
theorem oY{b:Bool}{st zu:St}{d:Option D}:(zG (bb b) st).leads (d,zu)↔d=some (.zi .bool b)∧zu=st:=xD
theorem Yw{op:BinOp}{k:IntKind}{a b:Int}{d:Option D}{st zu:St}{t:Nat}(h:(zG (YI op k a b) st).leads (d,zu))(hs:tS op=false) :
  ∃ y v,d=some y∧zu=st∧(binOp op t (.int k a) (.int k b)).run c.P κ.w=.ok v κ.w∧RD κ y v:=by
 cases op<;>simp only[YI]at h<;>try (exact absurd h zg)
 all_goals first
  | (rw[jx]at h; obtain⟨rfl,rfl⟩:=h; exact⟨_,_,rfl,rfl,by simp[binOp,Op.intArith,Op.intBits,fH],RD.int⟩)
  | (rw[oY]at h; obtain⟨rfl,rfl⟩:=h; exact⟨_,_,rfl,rfl,by simp[binOp,Op.intCmp],RD.bool⟩)
  | (rw[wC]at h; obtain⟨hb,rfl,rfl⟩:=h; exact⟨_,_,rfl,rfl,by simp[binOp,Op.intDiv,hb],RD.int⟩)
theorem YW{op:BinOp}{a b:zh}{d:Option D}{st zu:St}{t:Nat}(h:(zG (YY op a b) st).leads (d,zu))(hs:tS op=false) :
  ∃ y v,d=some y∧zu=st∧(binOp op t (.string ⟨a.toArray⟩) (.string ⟨b.toArray⟩)).run c.P κ.w=.ok v κ.w∧RD κ y v:=by
 have uj:∀ s:zh,(⟨s.toArray⟩:ByteArray).size=s.length:=fun _=>rfl
 cases op<;>simp only[YY]at h<;>try (exact absurd h zg)
 case add =>
  rw[wC]at h; obtain⟨hb,rfl,rfl⟩:=h
  refine⟨_,_,rfl,rfl,?_,RD.str⟩
  have e:(⟨a.toArray⟩++⟨b.toArray⟩:ByteArray)=⟨(cat a b).toArray⟩:=by
   apply ByteArray.ext; rw[ByteArray.data_append]; simp[cat]
  have hn:¬ (IntKind.i64.max<((a.length+b.length:Nat):Int)):=by
   have:IntKind.i64.max=9223372036854775807:=by decide
   omega
  simp only[binOp,Op.stringOp,uj,gt_iff_lt,hn,if_false,e]
  rfl
 all_goals (rw[oY]at h; obtain⟨rfl,rfl⟩:=h; exact⟨_,_,rfl,rfl,by simp[binOp,Op.stringOp,zD,strLt],RD.bool⟩)
theorem YF{P:Program}{t:Nat}(hu:P.underlying t=some .bool)(a b:Bool)(w:World):(Op.equal t (.bool a) (.bool b)).run P w=.ok (a==b) w:=by
 unfold Op.equal
 show(Op.equalIn (9999+1) t _ _).run P w=_
 rw[Op.equalIn]
 simp only[Sem.run_bind,run_underlying hu,Result.andThen_ok,Sem.run_pure]
theorem EB{op:BinOp}{t:Nat}{px py:Operand}{x y:Option D}{v u:Value}{d:Option D}{zu:St}(hI:Inv κ)(hx:∀ z,x=some z→RD κ z v)(hy:∀ z,y=some z→RD κ z u)
  (h:(zG (YA c op t x y) κ.st).leads (d,zu)):qy c.P (do Pure.pure (.value (← (do eqGuard op t px py v u; binOp op t v u)))) κ d zu:=by
 unfold YA at h
 split at h
 ·rename_i k a k' b hk Wz
  have:=vE hk hx
  subst this
  have:=vE Wz hy
  subst this
  split at h
  ·rw[wC]at h
   obtain⟨hb,rfl,rfl⟩:=h
   refine qy.pure hI ?_ RD.int
   simp only[Sem.run_bind,ll,Result.andThen_ok,binOp,Op.shift,if_neg (show ¬ b<0 by omega)]
   rfl
  ·rw[wC]at h
   obtain⟨hb,rfl,rfl⟩:=h
   refine qy.pure hI ?_ RD.int
   simp only[Sem.run_bind,ll,Result.andThen_ok,binOp,Op.shift,if_neg (show ¬ b<0 by omega)]
   rfl
  ·rename_i n1 n2
   cases he:decide (k=k')with
   | false=>rw[he]at h; exact absurd h zg
   | true =>
    have Ea:=of_decide_eq_true he
    subst Ea
    rw[he,cond_true]at h
    obtain⟨y',v',rfl,rfl,h1,h2⟩:=Yw (c:=c) (κ:=κ) (t:=t) h (by cases op<;>first | rfl | (exact absurd rfl n1) | (exact absurd rfl n2))
    exact qy.pure hI (by simp only[Sem.run_bind,ll,Result.andThen_ok,h1]) h2
 ·split at h
  ·rename_i a b ha hb
   have:=lf ha hx
   subst this
   have:=lf hb hy
   subst this
   cases hs:tS op with
   | true=>rw[hs]at h; exact absurd h zg
   | false =>
    rw[hs,cond_false]at h
    obtain⟨y',v',rfl,rfl,h1,h2⟩:=YW (c:=c) (κ:=κ) (t:=t) h hs
    exact qy.pure hI (by simp only[Sem.run_bind,JZ,Result.andThen_ok,h1]) h2
  ·split at h
   ·rename_i a b hu ha hb
    have:=mF ha hx
    subst this
    have:=mF hb hy
    subst this
    cases op<;>simp only[Ec]at h<;>try (exact absurd h zg)
    all_goals
     rw[oY]at h; obtain⟨rfl,rfl⟩:=h
     refine qy.pure hI ?_ RD.bool
     simp only[Sem.run_bind,V5,Result.andThen_ok,binOp,YF hu,Sem.run_pure]
   ·exact absurd h zg
theorem MB{op:UnOp}{x:Option D}{v:Value}{d:Option D}{zu:St}(hI:Inv κ)(hx:∀ z,x=some z→RD κ z v)
  (h:(zG (IT op x) κ.st).leads (d,zu)):qy c.P (do Pure.pure (.value (← Op.unary op v))) κ d zu:=by
 unfold IT at h
 split at h
 ·split at h
  ·rename_i k n hk
   have:=vE hk hx
   subst this
   rw[jx]at h
   obtain⟨rfl,rfl⟩:=h
   exact qy.pure hI (by simp[Op.unary,Op.intArith]) RD.int
  ·exact absurd h zg
 ·split at h
  ·rename_i b hb
   have:=mF hb hx
   subst this
   rw[oY]at h
   obtain⟨rfl,rfl⟩:=h
   exact qy.pure hI (by simp[Op.unary]) RD.bool
  ·exact absurd h zg
 ·split at h
  ·rename_i k n hk
   have:=vE hk hx
   subst this
   rw[jx]at h
   obtain⟨rfl,rfl⟩:=h
   exact qy.pure hI (by simp[Op.unary,Op.intBits,fH]) RD.int
  ·exact absurd h zg
 ·exact absurd h zg
theorem Mg{t ty:Nat}{ts:Array Nat}{x:Option D}{v:Value}{vs:Array Value}{d:Option D}{zu:St}(hI:Inv κ)(hx:∀ z,x=some z→RD κ z v)(ht:ts[0]? = some t)(hv:vs[0]? = some v)
  (h:(zG (E5 c t x) κ.st).leads (d,zu)):qy c.P (do Pure.pure (.value (← Builtin.len_ ts ty vs))) κ d zu:=by
 unfold E5 at h
 split at h
 ·rename_i e hu
  have key:∀ (n:Nat) (a:Option Addr) (cap:Nat),v=.slice a n cap→d=some (.zi (.int .i64) (n:Int))→zu=κ.st→qy c.P (do Pure.pure (.value (← Builtin.len_ ts ty vs))) κ d zu:=by
   rintro n a cap rfl rfl rfl
   exact qy.pure hI (by simp[Builtin.len_,ht,hv,run_underlying hu,goInt]) RD.int
  split at h
  ·rename_i e' l
   rw[jx]at h
   rcases((hx _ rfl).wU rfl).rX with⟨rfl,a0,he⟩ | ⟨blk,off,cap,f,he,_⟩
   ·cases he; exact key 0 a0 0 rfl h.1 h.2
   ·cases he; exact key _ _ _ rfl h.1 h.2
  ·rename_i e' l ne
   rw[jx]at h
   cases hx _ rfl with
   | qW _ a0=>exact key 0 a0 0 rfl h.1 h.2
   | tight=>exact key _ _ _ rfl h.1 h.2
  ·rw[jx]at h
   cases hx _ rfl
   exact key 0 none 0 rfl h.1 h.2
  ·rw[jx]at h
   cases hx _ rfl
   exact key _ _ _ rfl h.1 h.2
  ·exact absurd h zg
 ·rename_i hu
  split at h
  ·rename_i s hs
   have:=lf hs hx
   subst this
   rw[jx]at h
   obtain⟨rfl,rfl⟩:=h
   have uj:(⟨s.toArray⟩:ByteArray).size=s.length:=rfl
   exact qy.pure hI (by simp only[Builtin.len_,ht,hv,Sem.run_bind,run_underlying hu,Result.andThen_ok,goInt,uj,Sem.run_pure]) RD.int
  ·exact absurd h zg
 ·exact absurd h zg
theorem Gl{f:Int→Int→Int}{g:Value→Value→Sem Value}{P:Program}(hg:∀ k k' a b,(g (.int k a) (.int k' b)).run P κ.w=.ok (.int k (f a b)) κ.w){x y:Option D}{v u:Value}{d:Option D}{zu:St}
  (hI:Inv κ) (hx:∀ z,x=some z→RD κ z v) (hy:∀ z,y=some z→RD κ z u) (h:(zG (ZA f [x,y]) κ.st).leads (d,zu)) :
  ∃ r,(g v u).run P κ.w=.ok r κ.w∧zu=κ.st∧∀ d',d=some d'→RD κ d' r:=by
 unfold ZA at h
 simp only at h
 split at h
 ·rename_i k a k' b hk Wz
  have:=vE hk hx
  subst this
  have:=vE Wz hy
  subst this
  cases he:decide (k=k')with
  | false=>rw[he]at h; exact absurd h zg
  | true =>
   rw[he,cond_true,jx]at h
   obtain⟨rfl,rfl⟩:=h
   exact⟨_,hg k k' a b,rfl,fun d' he=>by cases he; exact RD.int⟩
 ·exact absurd h zg
theorem VL{x:Option D}{i:Nat}{v:Value}{d:Option D}{zu:St}(hI:Inv κ)(hx:∀ z,x=some z→RD κ z v)
  (h:(zG (rJ x i) κ.st).leads (d,zu)):qy c.P (do Pure.pure (.value (← Instr.extract v i))) κ d zu:=by
 unfold rJ at h
 split at h
 ·rename_i vs
  obtain⟨y,hy,rfl,rfl⟩:=QQ h
  cases hx _ rfl with
  | jY _ us hl hh =>
   obtain⟨u,h1,h2⟩:=qG.get (⟨hl,hh⟩:qG κ vs us) hy
   exact qy.pure hI (by simp[Instr.extract,h1]) h2
 ·exact absurd h zg
theorem y7:∀ {l:List (Option D)} {ds:List D},vR l=some ds→l=ds.map some
 | [],ds,h=>by simp[vR]at h; subst h; rfl
 | some d::r,ds,h=>by
  simp only[vR]at h
  split at h
  ·rename_i l hl; cases h; simp[y7 hl]
  ·cases h
 | none::r,ds,h=>by simp[vR]at h
theorem kJ{l:List (Option D)}{ds:List D}{vs:List Value}(h:vR l=some ds)(hl:l.length=vs.length)
  (hr:∀ (i:Nat) (d:D) (v:Value),l[i]? = some (some d)→vs[i]? = some v→RD κ d v):qG κ ds vs:=by
 have:=y7 h
 subst this
 refine⟨by simpa using hl,fun i h1 h2=>hr i _ _ ?_ (List.getElem?_eq_getElem h2)⟩
 simp[List.getElem?_eq_getElem h1]
end
end Go.AM
namespace Go.AM
namespace T
variable {α β γ:Type}
theorem yU{t:T α}{x y:α}(h:t.leads x)(k:t.leads y):x=y:=by
 induction t with
 | ret a=>exact h.symm.trans k
 | ite b p q ip iq =>
  rcases h with⟨h1,h⟩ | ⟨h1,h⟩<;>rcases k with⟨k1,k⟩ | ⟨k1,k⟩
  ·exact ip h k
  ·rw[h1]at k1; cases k1
  ·rw[h1]at k1; cases k1
  ·exact iq h k
 | zj p t ih=>exact ih h.2 k.2
 | fail=>exact h.elim
theorem ze{t:T α}{f:α→T β}{x:β}:(t.bind f).leads x↔∃ a,t.leads a∧(f a).leads x:=by
 induction t with
 | ret a=>exact⟨fun h=>⟨a,rfl,h⟩,fun⟨b,h,k⟩=>by cases h; exact k⟩
 | ite b p q ip iq =>
  constructor
  ·rintro(⟨h1,h⟩ | ⟨h1,h⟩)
   ·obtain⟨a,k1,k2⟩:=ip.1 h; exact⟨a,.inl ⟨h1,k1⟩,k2⟩
   ·obtain⟨a,k1,k2⟩:=iq.1 h; exact⟨a,.inr ⟨h1,k1⟩,k2⟩
  ·rintro⟨a,⟨h1,k1⟩ | ⟨h1,k1⟩,k2⟩
   ·exact .inl ⟨h1,ip.2 ⟨a,k1,k2⟩⟩
   ·exact .inr ⟨h1,iq.2 ⟨a,k1,k2⟩⟩
 | zj p t ih =>
  constructor
  ·rintro⟨h1,h⟩; obtain⟨a,k1,k2⟩:=ih.1 h; exact⟨a,⟨h1,k1⟩,k2⟩
  ·rintro⟨a,⟨h1,k1⟩,k2⟩; exact⟨h1,ih.2 ⟨a,k1,k2⟩⟩
 | fail=>exact⟨fun h=>h.elim,fun⟨_,h,_⟩=>h.elim⟩
open Classical in
noncomputable def run:T α→Option α
 | ret a=>some a
 | ite b t e=>bif b then t.run else e.run
 | zj p t=>if p then t.run else none
 | fail=>none
@[simp] theorem z8(a:α):(ret a).run=some a:=rfl
@[simp] theorem z1U:(fail:T α).run=none:=rfl
theorem run_ite(b:Bool)(t e:T α):(ite b t e).run=if b=true then t.run else e.run:=by cases b<;>rfl
@[simp] theorem zl(t e:T α):(ite true t e).run=t.run:=rfl
@[simp] theorem zm(t e:T α):(ite false t e).run=e.run:=rfl
theorem zq{p:Prop}(h:p)(t:T α):(zj p t).run=t.run:=by simp only[run,if_pos h]
theorem zc{b:Bool}(h:b=true)(t e:T α):(ite b t e).run=t.run:=by rw[h]; rfl
theorem za{b:Bool}(h:b=false)(t e:T α):(ite b t e).run=e.run:=by rw[h]; rfl
theorem wg{t:T α}{x:α}:t.run=some x↔t.leads x:=by
 induction t with
 | ret a=>simp[run,leads]
 | ite b p q ip iq=>cases b<;>simp[run,leads,ip,iq]
 | zj p t ih=>by_cases h:p<;>simp[run,leads,h,ih]
 | fail=>simp[run,leads]
theorem run_bind(t:T α)(f:α→T β):(t.bind f).run=t.run.bind fun a=>(f a).run:=by
 induction t with
 | ret a=>rfl
 | ite b p q ip iq=>cases b<;>simp[run,bind,ip,iq]
 | zj p t ih=>by_cases h:p<;>simp[run,bind,h,ih]
 | fail=>rfl
theorem z6{t:T α}{a:α}(h:t.run=some a)(f:α→T β):(t.bind f).run=(f a).run:=by rw[run_bind,h]; rfl
section loop
variable {σ ρ:Type} (r:σ→T (σ⊕ρ))
inductive Iter:Nat→σ→ρ→Prop
 | done {s:σ} {x:ρ} (h:(r s).leads (.inr x)):Iter 0 s x
 | step {n:Nat} {s s':σ} {x:ρ} (h:(r s).leads (.inl s')) (k:Iter n s' x):Iter (n+1) s x
theorem Iter.det{r:σ→T (σ⊕ρ)}{n m:Nat}{s:σ}{x y:ρ}(h:Iter r n s x)(k:Iter r m s y):x=y:=by
 induction h generalizing m y with
 | done h =>
  cases k with
  | done k=>have:=yU h k; cases this; rfl
  | step k _=>have:=yU h k; cases this
 | step h _ ih =>
  cases k with
  | done k=>have:=yU h k; cases this
  | step k k2=>have:=yU h k; cases this; exact ih k2
open Classical in
noncomputable def loop (s:σ):T ρ:=if h:∃ x n,Iter r n s x then .ret h.choose else .fail
theorem bF{s:σ}{x:ρ}:(loop r s).leads x↔∃ n,Iter r n s x:=by
 unfold loop
 split
 ·rename_i h
  obtain⟨n,hn⟩:=h.choose_spec
  constructor
  ·intro hx; cases hx; exact⟨n,hn⟩
  ·rintro⟨m,hm⟩; exact hn.det hm
 ·rename_i h
  exact⟨fun k=>k.elim,fun⟨n,hn⟩=>h ⟨x,n,hn⟩⟩
theorem wq{r:σ→T (σ⊕ρ)}(I:σ→Prop)(μ:σ→Nat)(f:σ→ρ)
  (h:∀ s,I s→(∃ s',(r s).run=some (.inl s')∧I s'∧μ s'<μ s∧f s'=f s)∨(r s).run=some (.inr (f s))) {s:σ} (hs:I s):(loop r s).run=some (f s):=by
 rw[wg,bF]
 generalize hm:μ s=m
 induction m using Nat.strongRecOn generalizing s with
 | _ m ih =>
  rcases h s hs with⟨s',h1,h2,h3,h4⟩ | h1
  ·obtain⟨n,hn⟩:=ih (μ s') (by omega) h2 rfl
   exact⟨n+1,.step (wg.1 h1) (h4▸hn)⟩
  ·exact⟨0,.done (wg.1 h1)⟩
theorem xV{r:σ→T (σ⊕ρ)}{s s':σ}(h:(r s).run=some (.inl s')):(loop r s).run=(loop r s').run:=by
 have h':=wg.1 h
 apply Option.ext
 intro x
 show(loop r s).run=some x↔(loop r s').run=some x
 rw[wg,wg,bF,bF]
 constructor
 ·rintro⟨n,hn⟩
  cases hn with
  | done k=>have:=yU h' k; cases this
  | step k k2=>have:=yU h' k; cases this; exact⟨_,k2⟩
 ·rintro⟨n,hn⟩; exact⟨n+1,.step h' hn⟩
theorem q9{r:σ→T (σ⊕ρ)}{s:σ}{x:ρ}(h:(r s).run=some (.inr x)):(loop r s).run=some x:=by
 rw[wg,bF]; exact⟨0,.done (wg.1 h)⟩
end loop
section fix
variable {σ ρ:Type} (b:(σ→T ρ)→σ→T ρ)
def KU:Nat→σ→T ρ
 | 0,_=>.fail
 | n+1,x=>b (KU n) x
open Classical in
noncomputable def fix (x:σ):T ρ:=if h:∃ y n,∀ m,n≤m→(KU b m x).leads y then .ret h.choose else .fail
theorem dM{x:σ}{y:ρ}:(fix b x).leads y↔∃ n,∀ m,n≤m→(KU b m x).leads y:=by
 unfold fix
 split
 ·rename_i h
  obtain⟨n,hn⟩:=h.choose_spec
  constructor
  ·intro hx; cases hx; exact⟨n,hn⟩
  ·rintro⟨k,hk⟩; exact yU (hn (max n k) (by omega)) (hk (max n k) (by omega))
 ·rename_i h
  exact⟨fun k=>k.elim,fun⟨n,hn⟩=>h ⟨y,n,hn⟩⟩
theorem eA{b:(σ→T ρ)→σ→T ρ}(I:σ→Prop)(μ:σ→Nat)(f:σ→ρ)
  (h:∀ x,I x→∀ g:σ→T ρ,(∀ y,I y→μ y<μ x→(g y).run=some (f y))→(b g x).run=some (f x)) {x:σ} (hx:I x):(fix b x).run=some (f x):=by
 rw[wg,dM]
 refine⟨μ x+1,fun m hm => ?_⟩
 induction m generalizing x with
 | zero=>omega
 | succ m ih =>
  rw[← wg]
  refine h x hx (KU b m) fun y hy qh => ?_
  rw[wg]
  exact ih hy (by omega)
end fix
def c7:T α→Option Prop
 | ret _=>none
 | ite b t e=>match t.c7,e.c7 with
  | none,none=>none
  | some p,none=>some (b=true→p)
  | none,some q=>some (b=false→q)
  | some p,some q=>some ((b=true→p)∧(b=false→q))
 | zj p t=>match t.c7 with
  | none=>some p
  | some q=>some (p∧q)
 | fail=>some False
def val(d:α):T α→α
 | ret a=>a
 | ite b t e=>bif b then t.val d else e.val d
 | zj _ t=>t.val d
 | fail=>d
def flat(d:α)(t:T α):T α:=match t.c7 with
 | none=>.ret (t.val d)
 | some p=>.zj p (.ret (t.val d))
def tG(t:T α):Prop:=match t.c7 with | none=>True | some p=>p
theorem Q2(d:α)(t:T α)(x:α):t.leads x↔t.tG∧t.val d=x:=by
 induction t with
 | ret a=>simp[leads,tG,c7,val]
 | ite b p q ip iq =>
  cases b
  ·simp only[leads,Bool.false_eq_true,false_and,true_and,false_or,val,cond_false,iq]
   unfold tG
   simp only[c7]
   cases p.c7<;>cases q.c7<;>simp
  ·simp only[leads,true_and,Bool.true_eq_false,false_and,or_false,val,cond_true,ip]
   unfold tG
   simp only[c7]
   cases p.c7<;>cases q.c7<;>simp
 | zj p t ih =>
  simp only[leads,ih,val]
  unfold tG
  simp only[c7]
  cases t.c7<;>simp[and_assoc]
 | fail=>simp[leads,tG,c7]
end T
abbrev zr(x:Int):Int:=IntKind.wrap .i64 x
abbrev zn(x:Int):Int:=IntKind.wrap .u64 x
abbrev qg(x:Int):Int:=IntKind.wrap .u32 x
abbrev C9(x:Int):Int:=IntKind.wrap .u8 x
def q8(qs off len n:Nat):Prop:=qs=n∧off=0∧len=n
def zt(i:Int)(n:Nat):Prop:=0≤i∧i<(n:Int)
def fu(qs uZ idx n:Nat):Prop:=qs=uZ∧idx<n
def pc(qs uZ off len n m bytes:Nat):Prop:=qs=uZ∧off=0∧len=n∧(n+m)*bytes≤140737488355328
def kc(l h:Int)(n:Nat):Prop:=0≤l∧l≤h∧h≤(n:Int)
def j2(l:zh):Nat→zh
 | 0=>[]
 | c+1=>l++j2 l c
def tL:zh→zh→Int
 | [],sub=>if sub.isEmpty then 0 else -1
 | b::l,sub=>if sub.isPrefixOf (b::l)then 0 else if tL l sub == -1 then -1 else tL l sub+1
def iw:zh→UInt8→Int
 | [],_ => -1
 | b::l,c=>if b==c then 0 else if iw l c == -1 then -1 else iw l c+1
def oH(s sep:zh):zh×zh×Bool:=if 0≤tL s sep then(s.take (tL s sep).toNat,s.drop ((tL s sep).toNat+sep.length),true)else(s,[],false)
def ji(s p:zh):zh:=if List.isPrefixOf p s=true then s.drop p.length else s
def gV(s:zh):den (hO .bool 256):=Dh (e:=.bool) (fun j=>s.contains (UInt8.ofNat j)) 256 0
def OL(v v' o l n:Nat):Prop:=v=v'∧o+l≤n
def rN(n m:Int)(bytes:Nat):Prop:=0≤n∧n≤m∧m*bytes≤140737488355328∧m≤140737488355328
def nth{α:Type}(l:List α)(i:Int)(d:α):α:=List.getD l i.toNat d
def xm{α:Type}(l:List α)(i:Nat)(d:α):α:=List.getD l i d
def zo(s:zh)(i:Int):Int:=((List.getD s i.toNat 0).toNat:Int)
def Yd(k:IntKind)(x y:Int):Int:=fH k (· &&& ·) x y
def kR(k:IntKind)(x y:Int):Int:=fH k (· ||| ·) x y
def GS(k:IntKind)(x y:Int):Int:=fH k (· ^^^ ·) x y
end Go.AM
namespace Go.AM
namespace T
variable {α β:Type}
attribute [simp] run_bind
@[simp] theorem jB(b:Bool)(t e:T α):(ite b t e).run=if b=true then t.run else e.run:=run_ite b t e
@[simp] theorem qi{i:Int}{n:Nat}(t:T α)(h1:0≤i)(h2:i<(n:Int)):(zj (zt i n) t).run=t.run:=zq ⟨h1,h2⟩ t
@[simp] theorem j0{v v' i n:Nat}(t:T α)(h1:v=v')(h2:i<n):(zj (fu v v' i n) t).run=t.run:=zq ⟨h1,h2⟩ t
@[simp] theorem z2R{v v' o l n m b:Nat}(t:T α)(h1:v=v')(h2:o=0)(h3:l=n)(h4:(n+m)*b≤140737488355328):(zj (pc v v' o l n m b) t).run=t.run:=zq ⟨h1,h2,h3,h4⟩ t
@[simp] theorem qB{v o l n:Nat}(t:T α)(h1:v=n)(h2:o=0)(h3:l=n):(zj (q8 v o l n) t).run=t.run:=zq ⟨h1,h2,h3⟩ t
@[simp] theorem jv{l h:Int}{n:Nat}(t:T α)(h1:0≤l)(h2:l≤h)(h3:h≤(n:Int)):(zj (kc l h n) t).run=t.run:=zq ⟨h1,h2,h3⟩ t
@[simp] theorem run_mk{n m:Int}{b:Nat}(t:T α)(h1:0≤n)(h2:n≤m)(h3:m*b≤140737488355328)(h4:m≤140737488355328):(zj (rN n m b) t).run=t.run:=zq ⟨h1,h2,h3,h4⟩ t
@[simp] theorem NH{v v' o l n:Nat}(t:T α)(h1:v=v')(h2:o+l≤n):(zj (OL v v' o l n) t).run=t.run:=zq ⟨h1,h2⟩ t
@[simp] theorem wN{a b:Nat}(t:T α)(h:a=b):(zj (a=b) t).run=t.run:=zq h t
@[simp] theorem qm{a b:Nat}(t:T α)(h:a≤b):(zj (a≤b) t).run=t.run:=zq h t
@[simp] theorem ug{a b:Int}(t:T α)(h:a≤b):(zj (a≤b) t).run=t.run:=zq h t
@[simp] theorem wT{a b:Int}(t:T α)(h:a≠b):(zj (a≠b) t).run=t.run:=zq h t
@[simp] theorem zL(t:T α):(zj True t).run=t.run:=zq trivial t
end T
@[simp] theorem zJ{x:Int}(h1 : -9223372036854775808≤x)(h2:x≤9223372036854775807):zr x=x:=IntWalk.i64_in x ⟨h1,h2⟩
@[simp] theorem Ud{x:Int}(h1:0≤x)(h2:x≤255):C9 x=x:=IntWalk.u8_in x ⟨h1,h2⟩
@[simp] theorem mN{x:Int}(h1:0≤x)(h2:x≤4294967295):qg x=x:=IntWalk.u32_in x ⟨h1,h2⟩
@[simp] theorem qf{x:Int}(h1:0≤x)(h2:x≤18446744073709551615):zn x=x:=IntWalk.u64_in x ⟨h1,h2⟩
theorem bR(x:Int):qg x=x % 4294967296:=IntKind.wrap_u32 x
theorem Et{α:Type}(l:List α)(d:α){i:Int}(h0:0≤i)(hi:i<(l.length:Int)):l.drop i.toNat=nth l i d::l.drop (i+1).toNat:=by
 unfold nth
 have qh:i.toNat<l.length:=by omega
 have e:(i+1).toNat=i.toNat+1:=by omega
 rw[e,List.drop_eq_getElem_cons qh]
 simp[List.getD_eq_getElem?_getD,qh]
namespace T
variable {σ ρ α β:Type}
theorem Ws{r:σ→T (σ⊕ρ)}(l:List α)(d:α)(e:β→Int→σ)(I:β→List α→Prop)(f:List α→β→ρ)
  (step:∀ (b:β) (x:α) (xs:List α) (i:Int),0≤i→i<(l.length:Int)→nth l i d=x→I b (x::xs) →
   (∃ b',(r (e b i)).run=some (.inl (e b' (i+1)))∧I b' xs∧f xs b'=f (x::xs) b)∨(r (e b i)).run=some (.inr (f (x::xs) b)))
  (done:∀ b,I b []→(r (e b (l.length:Int))).run=some (.inr (f [] b))) {b:β} (hI:I b l):(loop r (e b 0)).run=some (f l b):=by
 have key:∀ (xs:List α) (i:Nat) (b:β),l.drop i=xs→i≤l.length→I b xs→(loop r (e b (i:Int))).run=some (f xs b):=by
  intro xs
  induction xs with
  | nil =>
   intro i b hd hi hb
   have:i=l.length:=by have:=List.drop_eq_nil_iff.1 hd; omega
   subst this
   exact q9 (done b hb)
  | cons x xs ih =>
   intro i b hd hi hb
   have qh:i<l.length:=by
    rcases Nat.lt_or_ge i l.length with h | h
    ·exact h
    ·rw[List.drop_eq_nil_of_le h]at hd; cases hd
   have j9:=Et l d (i:=(i:Int)) (by omega) (by omega)
   have e1:((i:Int)+1).toNat=i+1:=by omega
   simp only[Int.toNat_natCast,e1]at j9
   rw[hd]at j9
   obtain⟨h1,h2⟩:=List.cons.inj j9
   rcases step b x xs i (by omega) (by omega) (by rw[h1]) hb with⟨b',g1,g2,g3⟩ | g1
   ·rw[xV g1,← g3]
    have:=ih (i+1) b' h2.symm (by omega) g2
    simpa using this
   ·exact q9 g1
 exact key l 0 b (by simp) (Nat.zero_le _) hI
end T
end Go.AM