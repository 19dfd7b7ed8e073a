/-
  The abstract machine, part A: texts of our own, the same for each claim.
-/
import Derived.WalkKit
import Derived.Maps.OwnOps
import Derived.Maps.Views
import Derived.Laws.StructEq
set_option linter.unusedVariables false
set_option linter.unusedSectionVars false
open Nat renaming beq -> zA, eq_of_beq_eq_true -> zE, le_refl -> zF, blt -> zI, ble -> zJ, le_of_ble_eq_true -> zK, le_trans -> zS
open Go.Result renaming andThen_ok -> Y
open Go.Sem renaming run_bind -> I, run_pure -> zN
open List renaming length -> R, getElem?_eq_getElem -> zP, getD -> zR, length_nil -> zY
open Pure renaming pure -> zG
open Go.Instr renaming sliceAt -> zH, slice -> zL, indexAt -> zO, sureAddr -> zQ, sliceBounds -> zU, loadAt -> zW, fieldAt -> qB, field -> qD
open Bool renaming and_eq_true -> zM
open Int renaming cast_ofNat_Int -> zT
open Go.Builtin renaming len_ -> zV
open Go.IntKind renaming wrap -> zX
open Go.Op renaming eqFields -> zZ, equalIn -> qC
open Go.Value renaming cells -> qA
namespace Go
theorem Z{p:Prop}(h:p:=by omega):p:=h
theorem qh{p:Prop}(h:p:=by decide):p:=h
theorem qw{p:Prop}(h:p:=by simp):p:=h
theorem wa{p:Prop}(h:p:=by grind):p:=h
theorem uC{p:Prop}[Decidable p](h:decide p=true):p:=of_decide_eq_true h
theorem ga{p:Prop}[Decidable p](h:decide p=false):Not p:=of_decide_eq_false h
end Go
namespace Go.AM
theorem sC{a b c d:Prop}(h:a\/b)(f:a->c)(g:b->d):c\/d:=wa
abbrev zn:=List UInt8
inductive Ty where
 | int (k:IntKind) | bool | str | sl (e:Ty) | nil | cons (a b:Ty) | expr
 deriving DecidableEq
inductive Expr where
 | mk (kind:Int) (num:Bool×List Int×List Int×Unit) (name:zn) (kids:List Expr)
def Expr.kind:Expr->Int | .mk k _ _ _=>k
def Expr.num:Expr->Bool×List Int×List Int×Unit | .mk _ n _ _=>n
def Expr.name:Expr->zn | .mk _ _ n _=>n
def Expr.kids:Expr->List Expr | .mk _ _ _ l=>l
@[reducible] def den:Ty->Type
 | .int _=>Int
 | .bool=>Bool
 | .str=>zn
 | .sl e=>List (den e)
 | .nil=>Unit
 | .cons a b=>den a×den b
 | .expr=>Expr
abbrev u32:Ty:=.int .u32
abbrev i64:Ty:=.int .i64
abbrev Cs:Ty:=.cons .bool (.cons (.sl u32) (.cons (.sl u32) .nil))
abbrev Kz:Ty:=.cons i64 (.cons Cs (.cons .str (.cons (.sl .expr) .nil)))
def Expr.z1F(e:Expr):den Kz:=(e.kind,e.num,e.name,e.kids,())
def Expr.MV(x:den Kz):Expr:=.mk x.1 x.2.1 x.2.2.1 x.2.2.2.1
def Ty.size:Ty->Nat
 | .int _ | .bool | .str | .sl _=>1
 | .nil=>0
 | .cons a b=>a.size+b.size
 | .expr=>6
def Ty.isAgg:Ty->Bool
 | .nil | .cons _ _ | .expr=>true
 | _=>false
def zb:(τ:Ty)->den τ
 | .int _=>(0:Int)
 | .bool=>false
 | .str=>([]:zn)
 | .sl e=>([]:List (den e))
 | .nil=>()
 | .cons a b=>(zb a,zb b)
 | .expr=>.mk 0 (false,[],[],()) [] []
inductive D where
 | qj (τ:Ty) (x:den τ)
 | tight (e:Ty) (l:List (den e)) (ne:Bool)
 | tc (e:Ty) (l:List (den e)) (b:Bool)
 | wF | bq | vb | gC | uX
 | ptr (b off:Nat)
 | vC (τ:Ty) (x:den τ)
 | gU (b vn:Nat) (e:Ty) (idx off:Nat)
 | ms (b vn:Nat) (e:Ty) (off len:Nat)
 | wi (f:Nat) (cap:List D)
 | agg (cs:List D)
 | fj (vs:List D)
 | iface (t:Nat) (d:D)
 | Vq
 | eS (b T:Nat)
 | nD (T:Nat)
 | yY (b:Nat)
 | Cm (l:List Int)
inductive dn where
 | dead
 | var (d:D)
 | arr (vn:Nat) (e:Ty) (xs:List (den e))
abbrev St:=List dn
inductive T(α:Type) where
 | ret (a:α)
 | ite (b:Bool) (t e:T α)
 | zl (p:Prop) (t:T α)
 | fail
namespace T
variable {α β:Type}
def bind:T α->(α->T β)->T β
 | ret a,k=>k a
 | ite b t e,k=>ite b (t.bind k) (e.bind k)
 | zl p t,k=>zl p (t.bind k)
 | fail,_=>fail
def GX:Option α->T α
 | some a=>ret a
 | none=>fail
def leads:T α->α->Prop
 | ret a,x=>a=x
 | ite b t e,x=>(b=true/\t.leads x)\/(b=false/\e.leads x)
 | zl p t,x=>p/\t.leads x
 | fail,_=>False
def wp(Q:α->Prop):T α->Prop
 | ret a=>Q a
 | ite b t e=>(b=true->t.wp Q)/\(b=false->e.wp Q)
 | zl p t=>p/\t.wp Q
 | fail=>False
end T
abbrev Fr:=List (Nat×Option D)
def Fr.get:Fr->Nat->Option D
 | [],_=>none
 | (t,d)::r,s=>bif zA t s then d else Fr.get r s
def Fr.put(fr:Fr)(dst:Option Nat)(d:Option D):Fr :=
 match dst with
 | some t=>(t,d)::fr
 | none=>fr
abbrev Kn:=List (Nat×Option Bool)
def Kn.get:Kn->Nat->Option Bool
 | [],_=>none
 | (t,b)::r,s=>bif zA t s then b else Kn.get r s
inductive HK where
 | ret (ds:List D)
 | bC (d:D)
inductive JK where
 | rp (τ:Ty) | im (τ:Ty)
inductive Ui where
 | ty (τ:Ty) | rp (τ:Ty) | wi (f:Nat) (caps:List JK)
structure Sig where
 params:List Ui
 res:List Ty
structure Ctx where
 P:Program
 xid:Nat
 sig:Nat->List D->Option Sig
 fn:Nat->List D->St->T (HK×St)
 ro:Nat->Bool
 /-- Blocks that a call leaves as they are. -/
 free:Nat->List D->St->List Nat
 z1G:∀ (g:Nat) (args:List D) (st:St) (rs:HK) (qm:St) (b:Nat),(fn g args st).leads (rs,qm)->b∈free g args st->qm[b]? = st[b]?
 /-- What a call touches that lays no new block. -/
 X3:Nat->List D->Option (List Nat)
 Sh:∀ (g:Nat) (args:List D) (hx:List Nat) (st:St) (rs:HK) (qm:St),X3 g args=some hx->(fn g args st).leads (rs,qm) ->
  qm.length=st.length/\(∀ b,b<st.length->b ∉ hx->qm[b]? = st[b]?)/\∀ x,(fn g args (st++[x])).leads (rs,qm++[x])
inductive Ex where
 | normal | exit (id:Nat) | ret | bC (d:D)
class V0 where
 u8:Nat
def zfi[V0](e:Ty)(t:Nat):Bool:=match e with
 | .int .u8=>zA t V0.u8
 | _=>true
def zca[V0](e:Ty)(t:Nat):Prop:=e=.int .u8->t=V0.u8
section ops
variable (c:Ctx)
variable [V0]
def tU(t:Nat):Option Nat:=(c.P.info? t).map (·.size)
def rG(t:Nat):Option Nat:=(c.P.info? t).map (·.bytes)
def EU(t:Nat):Option Bool:=match c.P.underlying t with | some (.struct _) | some (.array _ _)=>some true | some _=>some false | none=>none
def p7:List (Option Ty)->Option Ty
 | []=>some .nil
 | some a::r=>match p7 r with | some b=>some (.cons a b) | none=>none
 | none::_=>none
def HB:Nat->Nat->Option Ty
 | 0,_=>none
 | n+1,t=>bif zA t c.xid then some .expr else
  match c.P.underlying t with
  | some (.int k)=>some (.int k)
  | some .bool=>some .bool
  | some .string=>some .str
  | some (.slice e)=>match HB n e with | some a=>some (.sl a) | none=>none
  | some (.struct fs)=>p7 (fs.toList.map λf=>HB n f.type)
  | some (.array k e)=>p7 (List.replicate k (HB n e))
  | _=>none
def cF(t:Nat)(τ:Ty):Bool:=zfi τ t&&(match tU c t with | some n=>zA n τ.size | none=>false)&&(match EU c t with | some b=>b==τ.isAgg | none=>false)
def XV:Value->Option D
 | .int k n=>some (.qj (.int k) n)
 | .bool b=>some (.qj .bool b)
 | .string s=>some (.qj .str s.data.toList)
 | .slice none 0 0=>some .wF
 | .pointer none=>some .bq
 | .nilFunc=>some .gC
 | .nilIface=>some .vb
 | .map none=>some .uX
 | _=>none
def gO:List (Option D)->Option (List D)
 | []=>some []
 | some d::r=>match gO r with | some l=>some (d::l) | none=>none
 | none::_=>none
def KR:Value->Option D
 | .agg cs=>match gO (cs.toList.map XV)with | some l=>some (.agg l) | none=>none
 | v=>XV v
def flat:(τ:Ty)->den τ->List D
 | .int k,x=>[.qj (.int k) x]
 | .bool,x=>[.qj .bool x]
 | .str,x=>[.qj .str x]
 | .sl e,x=>[.qj (.sl e) x]
 | .nil,_=>[]
 | .cons a b,x=>flat a x.1++flat b x.2
 | .expr,x=>[.qj i64 x.kind,.qj .bool x.num.1,.qj (.sl u32) x.num.2.1,.qj (.sl u32) x.num.2.2.1,.qj .str x.name,.qj (.sl .expr) x.kids]
def xz:D->List D
 | .qj τ x=>flat τ x
 | .agg cs=>cs
 | .fj _=>[]
 | .Cm _=>[]
 | d=>[d]
def D.isAgg:D->Bool
 | .agg _=>true
 | _=>false
def D.db:D->Bool
 | .qj τ _=>τ.isAgg
 | .agg _=>true
 | _=>false
def D.zgt:D->Bool
 | .qj τ _=>τ.isAgg
 | .agg _=>true
 | _=>false
def lV:List D->Option Nat
 | .nD T::_=>some T
 | .eS _ T::_=>some T
 | _=>none
def D.typed:D->Option Nat
 | .agg l=>lV l
 | _=>none
def Qo(d d':D):Bool:=match d'.typed with
 | none=>true
 | some T=>match d.typed with | some T'=>zA T T' | none=>false
def D.Gv:D->Bool
 | .Cm _=>true
 | _=>false
def D.bQ:D->Bool
 | .fj _=>true
 | _=>false
def jX{a b:Ty}(x:den a):Option (den b):=if h:a=b then some (h▸x)else none
def nC(e:Ty):Nat->Ty
 | 0=>.nil
 | n+1=>.cons e (nC e n)
def F5:Ty->Option (Ty×Nat)
 | .cons e r=>match r with
  | .nil=>some (e,1)
  | r=>match F5 r with
   | some (e',n)=>bif decide (e=e')then some (e,n+1)else none
   | none=>none
 | _=>none
def Vc(e:Ty):(τ:Ty)->den τ->Nat->den e
 | .cons _ _,x,0=>match(jX x.1:Option (den e))with | some y=>y | none=>zb e
 | .cons _ b,x,i+1=>Vc e b x.2 i
 | _,_,_=>zb e
def SX{e:Ty}(f:Nat->den e):(n:Nat)->Nat->den (nC e n)
 | 0,_=>()
 | n+1,k=>(f k,SX f n (k+1))
def rH(τ:Ty):D->Option (den τ)
 | .qj σ x=>jX x
 | .tight e l _=>jX (a:=.sl e) l
 | .tc e l _=>jX (a:=.sl e) l
 | .wF=>match τ with | .sl e=>some ([]:List (den e)) | _=>none
 | _=>none
def dm:(τ:Ty)->List D->Option (den τ×List D)
 | .int k,d::r=>match rH (.int k) d with | some x=>some (x,r) | none=>none
 | .bool,d::r=>match rH .bool d with | some x=>some (x,r) | none=>none
 | .str,d::r=>match rH .str d with | some x=>some (x,r) | none=>none
 | .sl e,d::r=>match rH (.sl e) d with | some x=>some (x,r) | none=>none
 | .nil,r=>some ((),r)
 | .cons a b,r=>match dm a r with
  | some (x,r')=>match dm b r' with | some (y,r'')=>some ((x,y),r'') | none=>none
  | none=>none
 | .expr,[]=>none
 | .expr,d::r=>match rH i64 d with
  | none=>none
  | some k=>match r with
   | d1::d2::d3::d4::d5::r' =>
    match rH .bool d1,rH (.sl u32) d2,rH (.sl u32) d3,rH .str d4,rH (.sl .expr) d5 with
    | some a,some n,some m,some s,some l=>some (Expr.mk k (a,n,m,()) s l,r')
    | _,_,_,_,_=>none
   | _=>none
 | _,[]=>none
def pA(τ:Ty)(d:D):Option (den τ) :=
 match d with
 | .qj σ x=>jX x
 | .Cm _=>none
 | d=>bif (d.isAgg==τ.isAgg) && !d.bQ then match dm τ (xz d)with
   | some (x,[])=>some x
   | _=>none
  else none
def ZF(st:St):D->T D
 | .ms b vn e off len=>match st[b]? with
  | some (.arr ef e' xs)=>if h:e'=e then .zl (vn=ef) (.ret (.qj (.sl e) (h▸((xs.take (off+len)).drop off:List (den e')))))else .fail
  | _=>.fail
 | d=>.ret d
def Cz(st:St):List D->T (List D)
 | []=>.ret []
 | d::r=>(ZF st d).bind λx=>(Cz st r).bind λl=>.ret (x::l)
def snap(st:St):D->T D
 | .agg cs=>(Cz st cs).bind λl=>.ret (.agg l)
 | d=>ZF st d
def Uv(st:St)(τ:Ty)(d:D):T (den τ):=(snap st d).bind λx=>.GX (pA τ x)
def UT:D->Bool | .ms .. => true | _=>false
inductive eH where
 | val (t:T (Option D))
 | rd (k:St->T (Option D))
 | wr (k:St->T (Option D×St))
def val(d:D):eH:=.val (.ret (some d))
def zax(d:Option D):eH:=match d with | some d=>.val (.ret (some d)) | none=>.val .fail
def bad:eH:=.val .fail
def zcb(t:Nat):Bool:=match c.P.underlying t with
 | some (.struct fs)=>match fs[0]? with
  | some fd=>match c.P.underlying fd.type with | some (.pointer e)=>zA e t | _=>false
  | none=>false
 | _=>false
def z3Z(t:Nat)(d:D):D:=match d with
 | .agg (.bq::r)=>bif zcb c t then .agg (.nD t::r)else .agg (.bq::r)
 | d=>d
def Yc(t:Nat):Option D:=match c.P.info? t with
 | some i=>match i.zero with | some z=>(match KR z with | some d=>some (z3Z c t d) | none=>none) | none=>none
 | none=>none
def CI(l:List D)(off n:Nat):Option (List D) :=
 bif zJ (off+n) l.length then some ((l.drop off).take n)else none
def Nv(t:Nat)(d:D)(off:Nat):Option D :=
 match EU c t with
 | some true=>match tU c t with
  | none=>none
  | some n=>bif (zA off 0)&&zA n (xz d).length&&d.zgt then some d
   else match CI (xz d) off n with | some l=>some (.agg l) | none=>none
 | some false=>(xz d)[off]?
 | none=>none
def Bi(t:Nat)(d:D)(off:Nat)(x:D):Option D :=
 match tU c t with
 | none=>none
 | some n=>bif zI 0 n&&zA n (xz x).length&&zJ (off+n) (xz d).length then
   bif zA n (xz d).length then(bif d.db && !x.db then some (.agg (xz x))else some x)
   else some (.agg ((xz d).take off++xz x++(xz d).drop (off+n)))
  else none
def VK(t:Nat)(a:Option D):eH:=match a with
 | some (.vC τ x)=>bif cF c t τ then val (.qj τ x)else bad
 | some (.ptr b off)=>.rd λst=>match st[b]? with
  | some (.var d)=>bif d.Gv then .fail else match Nv c t d off with | some r=>.ret (some r) | none=>.fail
  | _=>.fail
 | some (.gU b vn e idx off)=>.rd λst=>match st[b]? with
  | some (.arr ef e' xs)=>bif decide (e'=e)then
    .zl (vn=ef/\idx<xs.length) (match Nv c t (.qj e' (xs.getD idx (zb e'))) off with | some r=>.ret (some r) | none=>.fail)
   else .fail
  | _=>.fail
 | _=>bad
def YP(t:Nat)(a:Option D)(v:Option D):eH:=match a,v with
 | some (.ptr b off),some x=>.wr λst=>match st[b]? with
  | some (.var d)=>match Bi c t d off x with | some r=>bif Qo d r then .ret (none,st.set b (.var r))else .fail | none=>.fail
  | _=>.fail
 | some (.gU b vn e idx off),some x=>.wr λst=>match st[b]? with
  | some (.arr ef e' xs)=>bif decide (e'=e)then
    .zl (vn=ef/\idx<xs.length) (match Bi c t (.qj e' (xs.getD idx (zb e'))) off x with
     | some r=>match pA e' r with | some y=>.ret (none,st.set b (.arr ef e' (xs.set idx y))) | none=>.fail
     | none=>.fail)
   else .fail
  | _=>.fail
 | _,_=>bad
def XD:(τ:Ty)->den τ->Nat->Option (D×Nat×Nat)
 | .cons a _,x,0=>some (.vC a x.1,0,a.size)
 | .cons a b,x,n+1=>match XD b x.2 n with | some (d,o,s)=>some (d,a.size+o,s) | none=>none
 | .expr,x,0=>some (.vC i64 x.kind,0,1)
 | .expr,x,1=>some (.vC Cs x.num,1,3)
 | .expr,x,2=>some (.vC .str x.name,4,1)
 | .expr,x,3=>some (.vC (.sl .expr) x.kids,5,1)
 | _,_,_=>none
def Yv(s f:Nat):Option (Nat×Nat):=match c.P.underlying s with
 | some (.struct fs)=>match fs[f]? with
  | some fd=>match tU c fd.type with | some n=>bif zA n 0 then none else some (fd.offset,n) | none=>none
  | none=>none
 | _=>none
def XB(s f:Nat)(a:Option D):eH:=match Yv c s f with
 | none=>bad
 | some (o,n)=>match a with
  | some (.vC τ x)=>match XD τ x f with
   | some (d,o',n')=>bif zA o o'&&zA n n' then val d else bad
   | none=>bad
  | some (.ptr b off)=>val (.ptr b (off+o))
  | some (.gU b vn e idx off)=>val (.gU b vn e idx (off+o))
  | _=>bad
def Dn(s f:Nat)(a:Option D):eH:=match c.P.underlying s with
 | some (.struct fs)=>match fs[f]? with
  | some fd=>match a with
   | some d=>zax (bif d.db then Nv c fd.type d fd.offset else none)
   | none=>bad
  | none=>bad
 | _=>bad
def asInt:Option D->Option (IntKind×Int)
 | some (.qj (.int k) n)=>some (k,n)
 | _=>none
def G1:Option D->Option zn
 | some (.qj .str s)=>some s
 | _=>none
def asBool:Option D->Option Bool
 | some (.qj .bool b)=>some b
 | _=>none
def nI(t:Nat):Option Nat:=match c.P.underlying t with | some (.slice e)=>some e | _=>none
def zcU(t:Nat):Option (Nat×Nat):=match c.P.underlying t with | some (.array n e)=>some (n,e) | _=>none
def Gt(t:Nat)(x:Option D)(i:Int):eH:=match zcU c t,x with
 | some (n,et),some (.vC τ y)=>match F5 τ with
  | some (e,m)=>bif cF c et e&&zA n m then .val (.zl (0<=i/\i<(n:Int)) (.ret (some (.vC e (Vc e τ y i.toNat)))))else bad
  | none=>bad
 | _,_=>bad
def XF(t:Nat)(x i:Option D):eH:=match nI c t,asInt i with
 | none,some (_,i)=>Gt c t x i
 | some et,some (_,i)=>match x with
  | some (.qj (.sl e) l)=>bif cF c et e then .val (.zl (0<=i/\i<(R l:Int)) (.ret (some (.vC e (zR l i.toNat (zb e))))))else bad
  | some (.tight e l _)=>bif cF c et e then .val (.zl (0<=i/\i<(R l:Int)) (.ret (some (.vC e (zR l i.toNat (zb e))))))else bad
  | some (.ms b vn e off len)=>bif cF c et e then .val (.zl (0<=i/\i<(len:Int)) (.ret (some (.gU b vn e (off+i.toNat) 0))))else bad
  | _=>bad
 | _,_=>bad
def DG(t:Nat)(x i:Option D):eH:=match asInt i,G1 x,c.P.underlying t with
 | some (_,i),some s,some .string=>.val (.zl (0<=i/\i<(R s:Int)) (.ret (some (.qj (.int .u8) ((zR s i.toNat 0).toNat:Int)))))
 | _,_,_=>bad
def SZ(d:Int):Option (Option D)->Option Int
 | none=>some d
 | some x=>match asInt x with | some (_,i)=>some i | none=>none
def iv(l h:Int)(s:zn):zn:=(s.take h.toNat).drop l.toNat
def je{e:Ty}(l h:Int)(s:List (den e)):List (den e):=(s.take h.toNat).drop l.toNat
def Ee(t:Nat)(x:Option D)(lo hi mx:Option (Option D)):eH:=match x with
 | some (.qj .str s)=>match c.P.underlying t,mx,SZ 0 lo,SZ (R s) hi with
  | some .string,none,some l,some h=>.val (.zl (0<=l/\l<=h/\h<=(R s:Int)) (.ret (some (.qj .str (iv l h s)))))
  | _,_,_,_=>bad
 | some (.qj (.sl e) s)=>match nI c t,SZ 0 lo,SZ (R s) hi with
  | some et,some l,some h=>bif cF c et e then match mx with
    | none=>.val (.zl (0<=l/\l<=h/\h<=(R s:Int)) (.ret (some (.qj (.sl e) (je l h s)))))
    | some m=>match asInt m with
     | some (_,m)=>bif hi.isSome then .val (.zl (0<=l/\l<=h/\h=m/\h<=(R s:Int)) (.ret (some (.tight e (je l h s) false))))else bad
     | none=>bad
   else bad
  | _,_,_=>bad
 | some (.tight e s _)=>match nI c t,mx,SZ 0 lo,SZ (R s) hi with
  | some et,none,some l,some h=>bif cF c et e then .val (.zl (0<=l/\l<=h/\h<=(R s:Int)) (.ret (some (.qj (.sl e) (je l h s)))))else bad
  | _,_,_,_=>bad
 | some (.ms b vn e off len)=>match nI c t,mx,SZ 0 lo,SZ len hi with
  | some et,none,some l,some h=>bif cF c et e then .val (.zl (0<=l/\l<=h/\h<=(len:Int)) (.ret (some (.ms b vn e (off+l.toNat) (h.toNat-l.toNat)))))else bad
  | _,_,_,_=>bad
 | _=>bad
def ib(k:IntKind)(n:Int):eH:=val (.qj (.int k) n)
def bb(b:Bool):eH:=val (.qj .bool b)
def Xi(k:IntKind)(f:BitVec k.bits->BitVec k.bits->BitVec k.bits)(x y:Int):Int:=k.wrap (f (BitVec.ofInt k.bits x) (BitVec.ofInt k.bits y)).toNat
def lZ(k:IntKind)(a b:Int):Int:=k.wrap (a*2 ^ (min b.toNat k.bits))
def j8(k:IntKind)(a b:Int):Int:=Int.fdiv a (2 ^ (min b.toNat k.bits))
def LN(op:BinOp)(k:IntKind)(a b:Int):eH:=match op with
 | .add=>ib k (k.wrap (a+b))
 | .sub=>ib k (k.wrap (a-b))
 | .mul=>ib k (k.wrap (a*b))
 | .quo=>.val (.zl (b≠0) (.ret (some (.qj (.int k) (k.wrap (a.tdiv b))))))
 | .rem=>.val (.zl (b≠0) (.ret (some (.qj (.int k) (a.tmod b)))))
 | .and=>ib k (Xi k (· &&& ·) a b)
 | .or=>ib k (Xi k (· ||| ·) a b)
 | .xor=>ib k (Xi k (· ^^^ ·) a b)
 | .eql=>bb (a==b)
 | .neq=>bb (a != b)
 | .lss=>bb (decide (a<b))
 | .leq=>bb (decide (a<=b))
 | .gtr=>bb (decide (b<a))
 | .geq=>bb (decide (b<=a))
 | _=>bad
def xx(a b:zn):Bool:=a==b
def strLt(a b:zn):Bool:=Op.bytesLess a b
def cat(a b:zn):zn:=a++b
def LR(op:BinOp)(a b:zn):eH:=match op with
 | .add=>.val (.zl (a.length+b.length<=4611686018427387904) (.ret (some (.qj .str (cat a b)))))
 | .eql=>bb (xx a b)
 | .neq=>bb (!xx a b)
 | .lss=>bb (strLt a b)
 | .leq=>bb (strLt a b||xx a b)
 | .gtr=>bb (!(strLt a b||xx a b))
 | .geq=>bb (!strLt a b)
 | _=>bad
def z1A(op:BinOp)(a b:Bool):eH:=match op with
 | .eql=>bb (a==b)
 | .neq=>bb (!(a==b))
 | _=>bad
def YD:BinOp->Bool
 | .shl | .shr=>true
 | _=>false
def zaM(a:Ty)(t:Nat):Bool:=match a,c.P.underlying t with
 | .int k,some (.int k')=>decide (k=k')
 | .bool,some .bool=>true
 | .str,some .string=>true
 | _,_=>false
def UL:Ty->Nat->List Field->Bool
 | .nil,_,[]=>true
 | .cons a r,off,f::fs=>decide (f.name ≠ "_")&&(zA f.offset off&&(zaM c a f.type&&UL r (off+1) fs))
 | _,_,_=>false
def eqT:(τ:Ty)->den τ->den τ->Bool
 | .int _,(a:Int),(b:Int)=>a==b
 | .bool,(a:Bool),(b:Bool)=>a==b
 | .str,(a:zn),(b:zn)=>xx a b
 | .cons a r,(x:den a×den r),(y:den a×den r)=>eqT a x.1 y.1&&eqT r x.2 y.2
 | _,_,_=>true
def Hs(τ:Ty)(t:Nat):Bool:=match c.P.underlying t with
 | some (.struct fs)=>UL c τ 0 fs.toList&&(!(c.P.stoodInHeld t) && !(c.P.eqGuardType c.P.depth t))
 | _=>false
def z1z(op:BinOp)(t:Nat)(x y:Option D):eH:=match x,y with
 | some (.qj τ a),some (.qj σ b)=>match(jX b:Option (den τ))with
  | some b=>bif τ.isAgg&&Hs c τ t then(match op with
   | .eql=>bb (eqT τ a b)
   | .neq=>bb (!eqT τ a b)
   | _=>bad)else bad
  | none=>bad
 | _,_=>bad
def G3(op:BinOp)(t:Nat)(x y:Option D):eH:=match asInt x,asInt y with
 | some (k,a),some (k',b)=>match op with
  | .shl=>.val (.zl (0<=b) (.ret (some (.qj (.int k) (lZ k a b)))))
  | .shr=>.val (.zl (0<=b) (.ret (some (.qj (.int k) (j8 k a b)))))
  | op=>bif decide (k=k')then LN op k a b else bad
 | _,_=>match G1 x,G1 y with
  | some a,some b=>bif YD op then bad else LR op a b
  | _,_=>match c.P.underlying t,asBool x,asBool y with
   | some .bool,some a,some b=>z1A op a b
   | _,_,_=>z1z c op t x y
def DS(op:BinOp)(t:Nat)(x:Option D):eH:=match c.P.underlying t with
 | some (.interface _)=>match op,x with
  | .eql,some .vb=>bb true
  | .eql,some (.iface _ _)=>bb false
  | .neq,some .vb=>bb false
  | .neq,some (.iface _ _)=>bb true
  | _,_=>bad
 | _=>bad
def QN(x:Option D)(at':Nat)(ok:Bool):eH:=match c.P.underlying at' with
 | some (.interface _)=>bad
 | none=>bad
 | some _=>match x with
  | some (.iface t d)=>bif zA t at'&&ok then val (.fj [d,.qj .bool true])else bad
  | _=>bad
def DV(op:BinOp)(t:Nat)(x:Option D)(z:eH):eH:=match c.P.underlying t with
 | some (.slice _)=>match op,x with
  | .eql,some .wF=>bb true
  | .eql,some (.tc _ _ b)=>bb (!b)
  | .neq,some .wF=>bb false
  | .neq,some (.tc _ _ b)=>bb b
  | _,_=>z
 | _=>z
def DU(op:BinOp)(t:Nat)(x:Option D)(z:eH):eH:=match c.P.underlying t with
 | some (.pointer _)=>match op,x with
  | .eql,some .bq=>bb true
  | .eql,some (.ptr _ _)=>bb false
  | .eql,some (.vC _ _)=>bb false
  | .neq,some .bq=>bb false
  | .neq,some (.ptr _ _)=>bb true
  | .neq,some (.vC _ _)=>bb true
  | _,_=>z
 | _=>z
def LQ(op:BinOp)(t:Nat)(p:Operand)(x y:Option D):eH:=match p with
 | .const .nilIface=>DS c op t x
 | .const (.slice none 0 0)=>DV c op t x (G3 c op t x y)
 | .const (.pointer none)=>DU c op t x (G3 c op t x y)
 | _=>G3 c op t x y
def z5h(op:UnOp)(x:Option D):eH:=match op with
 | .neg=>match asInt x with | some (k,n)=>ib k (k.wrap (0-n)) | none=>bad
 | .not=>match asBool x with | some b=>bb (!b) | none=>bad
 | .xor=>match asInt x with | some (k,n)=>ib k (Xi k (· ^^^ ·) (if k.signed then -1 else k.max) n) | none=>bad
 | _=>bad
def byteOf(n:Int):UInt8:=UInt8.ofNat n.toNat
def IU(e:Ty):D->Option (List (den e))
 | .qj σ y=>jX (a:=σ) (b:=.sl e) y
 | .tight e' y _=>jX (a:=.sl e') (b:=.sl e) y
 | .wF=>some []
 | _=>none
def jd(l:List Int):zn:=l.map byteOf
def JQ(e:Nat)(x:Option D):eH:=match c.P.underlying e,x with
 | some (.int .u8),some d=>.rd λst=>(ZF st d).bind λy=>match IU (.int .u8) y with
  | some l=>.ret (some (.qj .str (jd l)))
  | none=>.fail
 | _,_=>bad
def convertOp(s t:Nat)(x:Option D):eH:=match c.P.underlying s,c.P.underlying t with
 | some (.slice e),some .string=>JQ c e x
 | some (.int _),some (.int k)=>match asInt x with | some (_,n)=>ib k (k.wrap n) | none=>bad
 | some .string,some .string=>match G1 x with | some s=>val (.qj .str s) | none=>bad
 | _,_=>bad
def z2P(t:Nat)(x:Option D):eH:=match c.P.underlying t with
 | some (.slice _)=>match x with
  | some (.qj (.sl _) l)=>ib .i64 (R l)
  | some (.tight _ l _)=>ib .i64 (R l)
  | some .wF=>ib .i64 0
  | some (.ms _ _ _ _ len)=>ib .i64 (len:Nat)
  | _=>bad
 | some .string=>match G1 x with
  | some s=>ib .i64 (R s)
  | none=>bad
 | _=>bad
def ex(e:Ty){e':Ty}(xs:List (den e')):Option (List (den e)):=jX (a:=.sl e') (b:=.sl e) xs
def r9(e:Ty)(l ys:List (den e))(bytes:Nat)(st:St):T (Option D×St) :=
 .zl ((l.length+ys.length)*bytes<=140737488355328) (.ret (some (.ms st.length (l.length+ys.length) e 0 (l.length+ys.length)),st++[.arr (l.length+ys.length) e (l++ys)]))
def bI(e:Ty)(s:D)(ys:List (den e))(ne:Bool)(bytes:Nat)(st:St):T (Option D×St):=match s with
 | .wF=>bif ne then r9 e [] ys bytes st else .ite ys.isEmpty (.ret (some s,st)) (r9 e [] ys bytes st)
 | .tight e' l _=>match ex e l with
  | some l=>bif ne then r9 e l ys bytes st else .ite ys.isEmpty (.ret (some s,st)) (r9 e l ys bytes st)
  | none=>.fail
 | .tc e' l b=>match ex e l with
  | some []=>bif b then .zl (ys.length*bytes<=140737488355328) (.ret (some (.tc e ys true),st))else .fail
  | _=>.fail
 | .ms b vn e' off len=>match st[b]? with
  | some (.arr ef e'' xs)=>match ex e xs with
   | some xs=>bif decide (e'=e)then .zl (vn=ef/\off=0/\len=xs.length/\(xs.length+ys.length)*bytes<=140737488355328)
     (.ret (some (.ms b (vn+ys.length) e 0 (len+ys.length)),st.set b (.arr (vn+ys.length) e (xs++ys))))else .fail
   | none=>.fail
  | _=>.fail
 | _=>.fail
def zeroOf(et:Nat)(e:Ty):Option (den e):=match Yc c et with | some z=>pA e z | none=>none
def Xg(t:Nat)(s x:Option D):eH:=match nI c t with
 | none=>bad
 | some et=>match HB c 20 et,rG c et with
  | some e,some bytes=>bif cF c et e&&zI 0 e.size&&zI 0 bytes&&(zeroOf c et e).isSome then match s,x with
    | some s,some x=>.wr λst=>(ZF st x).bind λx=>match x with
     | .qj _ y=>match(jX y:Option (den (.sl e)))with
      | some ys=>bI e s ys false bytes st
      | none=>.fail
     | .tight _ y ne=>match ex e y with
      | some ys=>bI e s ys ne bytes st
      | none=>.fail
     | .wF=>bI e s [] false bytes st
     | _=>.fail
    | _,_=>bad
   else bad
  | _,_=>bad
def bytesOf(s:zn):List Int:=s.map λb=>((b.toNat:Nat):Int)
def Zc(t t':Nat)(s x:Option D):eH:=match nI c t with
 | none=>bad
 | some et=>match HB c 20 et,rG c et,c.P.underlying t' with
  | some (.int .u8),some bytes,some .string=>bif cF c et (.int .u8)&&zI 0 bytes&&(zeroOf c et (.int .u8)).isSome then match s,x with
    | some s,some (.qj .str l)=>.wr λst=>bI (.int .u8) s (bytesOf l) false bytes st
    | _,_=>bad
   else bad
  | _,_,_=>bad
def MM(t:Nat)(n m:Option D):eH:=match nI c t,asInt n,asInt m with
 | some et,some (_,n),some (_,m)=>match HB c 20 et,rG c et with
  | some e,some bytes=>match zeroOf c et e with
   | some z=>bif cF c et e&&zI 0 e.size then
     .wr λst=>.zl (0<=n/\n<=m/\m*bytes<=140737488355328/\m<=140737488355328) (.ret (some (.ms st.length n.toNat e 0 n.toNat),st++[.arr n.toNat e (List.replicate n.toNat z)]))
    else bad
   | none=>bad
  | _,_=>bad
 | _,_,_=>bad
def BR(e:Ty):Nat->List (Nat×Option D)->Option (List (den e))
 | _,[]=>some []
 | i,(j,some d)::r=>bif zA i j then match pA e d,BR e (i+1) r with
   | some x,some l=>some (x::l)
   | _,_=>none
  else none
 | _,_=>none
def cu(t n:Nat)(ps:List (Nat×Option D)):eH:=match nI c t with
 | none=>bad
 | some et=>match HB c 20 et with
  | some e=>bif cF c et e&&zA n ps.length&&zJ n 1000&&zJ e.size 100&&(zeroOf c et e).isSome then match BR e 0 ps with
    | some l=>bif zA n 0&&zI 0 e.size then .wr λst=>.ret (some (.ms st.length 0 e 0 0),st++[.arr 0 e []])else val (.tight e l (!zA n 0))
    | none=>bad
   else bad
  | none=>bad
def Us(t:Nat)(z:eH):eH:=match nI c t with
 | none=>z
 | some et=>match HB c 20 et with
  | some e=>bif cF c et e&&(zeroOf c et e).isSome then val (.tc e [] true)else z
  | none=>z
def sD(places:List (Nat×Nat)):List (Nat×Option D)->List D->Option (List D)
 | [],cells=>some cells
 | (i,some d)::r,cells=>match places[i]? with
  | some (off,n)=>bif !d.bQ&&zA n (xz d).length&&zJ (off+n) cells.length then
     sD places r (cells.take off++xz d++cells.drop (off+n))else none
  | none=>none
 | _,_=>none
def D4(t:Nat)(ps:List (Nat×Option D)):eH:=match c.P.underlying t with
 | some (.struct fs)=>match Yc c t,fs.toList.mapM (λf=>(c.P.info? f.type).map λi=>(f.offset,i.size))with
  | some (.agg z),some places=>match sD places ps z with
   | some l=>val (.agg l)
   | none=>bad
  | _,_=>bad
 | some (.array k e)=>match Yc c t,c.P.info? e with
  | some (.agg z),some ie=>match sD ((List.range k).map λi=>(i*ie.size,ie.size)) ps z with
   | some l=>val (.agg l)
   | none=>bad
  | _,_=>bad
 | _=>bad
def JX(x:Option D)(i:Nat):eH:=match x with
 | some (.fj vs)=>zax vs[i]?
 | _=>bad
def fy:List D->D
 | [d]=>d
 | ds=>.fj ds
def Ty.scalar:Ty->Bool
 | .int _ | .bool | .str=>true
 | .cons a b=>a.scalar&&b.scalar
 | .nil=>true
 | _=>false
def WU:D->Bool
 | .qj τ _=>τ.scalar
 | _=>false
def QT(st:St)(τ:Ty):D->T D
 | .vC _ x=>match(jX x:Option (den τ))with | some y=>.ret (.vC τ y) | none=>.fail
 | .ptr b off=>match st[b]? with
  | some (.var d)=>match bif zA off 0 then pA τ d else none with | some y=>.ret (.vC τ y) | none=>.fail
  | _=>.fail
 | _=>.fail
def Xn(st:St):JK->D->T D
 | .im τ,d=>(Uv st τ d).bind λx=>.ret (.qj τ x)
 | .rp τ,d=>QT st τ d
def nc(st:St):List JK->List D->T (List D)
 | [],[]=>.ret []
 | p::r,d::ds=>(Xn st p d).bind λx=>(nc st r ds).bind λl=>.ret (x::l)
 | _,_=>.fail
def Fj(st:St):Ui->D->T D
 | .ty τ,d=>(Uv st τ d).bind λx=>.ret (.qj τ x)
 | .rp τ,d=>QT st τ d
 | .wi f caps,.wi f' l=>bif zA f f' then(nc st caps l).bind λl=>.ret (.wi f l)else .fail
 | _,_=>.fail
def QS(st:St):List Ui->List D->T (List D)
 | [],[]=>.ret []
 | p::r,d::ds=>(Fj st p d).bind λx=>(QS st r ds).bind λl=>.ret (x::l)
 | _,_=>.fail
def zdX:D->Bool | .ptr .. => true | _=>false
def Kg:D->Bool
 | .agg cs=>cs.any UT
 | .wi _ l=>l.any λd=>UT d||zdX d
 | .ptr .. => true
 | d=>UT d
def z4P(r:HK×St):T (Option D):=match r with
 | (.ret ds,[])=>.ret (some (fy ds))
 | _=>.fail
def WR(r:HK×St):T (Option D):=match r with
 | (.ret ds,[])=>bif ds.all WU then .ret (some (fy ds))else .fail
 | _=>.fail
def eV(g:Nat)(s:Sig)(args:List D):eH :=
 bif !(args.any Kg)then .val ((QS [] s.params args).bind λl=>(c.fn g l []).bind z4P)
 else .rd λst=>(QS st s.params args).bind λl=>(c.fn g l []).bind WR
def tk(g:Nat)(args:List D):eH:=.wr λst=>(c.fn g args st).bind λr=>match r.1 with
 | .ret ds=>.ret (some (fy ds),r.2)
 | .bC _=>.fail
def eP(g:Nat):Nat:=bif zJ 1000000 g then g % 1000000 else g
def cj{α:Type}(g:Nat)(l caps:List α):List α:=bif zJ 1000000 g then caps++l else l++caps
def fB(f:Option D)(args:List (Option D)):eH:=match f,gO args with
 | some (.wi g caps),some l=>match c.sig (eP g) (cj g l caps)with
  | some s=>eV c (eP g) s (cj g l caps)
  | none=>tk c (eP g) (cj g l caps)
 | _,_=>bad
def V9(a b:Int):Int:=if b<a then b else a
def iA(a b:Int):Int:=if a<b then b else a
def GO(f:Int->Int->Int)(args:List (Option D)):eH:=match args with
 | [x,y]=>match asInt x,asInt y with
  | some (k,a),some (k',b)=>bif decide (k=k')then ib k (f a b)else bad
  | _,_=>bad
 | _=>bad
def yE{α:Type}(off len:Nat)(xs l:List α):List α:=xs.take off++l.take len++xs.drop (off+min len l.length)
def z1r(k:IntKind)(b vn off len:Nat)(l:List Int)(st:St):T (Option D×St):=match st[b]? with
 | some (.arr ef e' xs)=>match ex (.int k) xs with
  | some xs=>.zl (vn=ef/\off+len<=R xs) (.ret (some (.qj i64 ((min len l.length:Nat):Int)),st.set b (.arr ef (.int k) (yE off len xs l))))
  | none=>.fail
 | _=>.fail
def M7(t:Nat)(s x:Option D):eH:=match nI c t with
 | some et=>match c.P.underlying et,tU c et,s,x with
  | some (.int k),some 1,some (.ms b vn (.int k') off len),some d=>bif decide (k'=k)then .wr λst=>(ZF st d).bind λy=>match IU (.int k) y with
    | some l=>z1r k b vn off len l st
    | none=>.fail
   else bad
  | _,_,_,_=>bad
 | none=>bad
def mo(b:Builtin)(ts:List Nat)(args:List (Option D)):eH:=match b,ts,args with
 | .len,t::_,x::_=>z2P c t x
 | .append,[t,t'],[s,x]=>bif zA t t' then Xg c t s x else Zc c t t' s x
 | .copy,[t,_],[s,x]=>M7 c t s x
 | .min,_,args=>GO V9 args
 | .max,_,args=>GO iA args
 | _,_,_=>bad
def bM(fr:Fr):Operand->Option D
 | .tmp t=>fr.get t
 | .const v=>KR v
 | .global _=>none
 | .func f=>bif zI f 1000000 then some (.wi f [])else none
def VV(x:Option D):eH:=match x with
 | some (.ptr b o)=>val (.ptr b o)
 | some (.vC τ x)=>val (.vC τ x)
 | some (.gU b v e i o)=>val (.gU b v e i o)
 | some (.wi f l)=>val (.wi f l)
 | _=>bad
def N6(x a b:Option D):eH:=match asBool x with
 | some x=>.val (.ite x (.ret a) (.ret b))
 | none=>bad
def XM(t:Nat)(x:Option D):eH:=match c.P.underlying t with
 | some (.interface _) | none=>bad
 | some _=>match x with | some d=>val (.iface t d) | none=>bad
def z1e(x:Option D):eH:=match x with
 | some d=>bif d.bQ||d.typed.isSome then bad else .wr λst=>.ret (some (.ptr st.length 0),st++[.var d])
 | none=>bad
def z1f(t:Nat)(x:Option D):eH:=match x with
 | some (.qj τ x)=>val (.vC τ x)
 | some d=>match HB c 20 t with
  | some τ=>match pA τ d with | some x=>val (.vC τ x) | none=>bad
  | none=>bad
 | none=>bad
def z4Q:Option Nat->Bool
 | some s=>c.ro s
 | none=>false
def z1d(t:Nat)(dst:Option Nat)(x:Option D):eH:=bif z4Q c dst then z1f c t x else z1e x
def pz(t:Nat):eH:=match Yc c t with
 | some d=>.wr λst=>.ret (some (.ptr st.length 0),st++[.var d])
 | none=>bad
def Gu:IntKind->Bool
 | .i64=>true
 | _=>false
def I1(t:Nat):Bool:=match c.P.underlying t with
 | some (.map k e)=>(match c.P.underlying k with | some (.int q)=>Gu q | _=>false)&&(match c.P.underlying e with | some .bool=>true | _=>false)&&(match c.P.info? e with | some i=>(match i.zero with | some (.bool z) => !z | _=>false) | none=>false)
 | _=>false
def wfI(n:Int):Prop:=(Lit.int .i64 n).wf=true
def z45(y:Bool)(n:Int)(l:List Int):Prop:=y=true/\wfI n/\l.length<4294967296
def Kc(t:Nat)(r:Option Operand):eH:=bif I1 c t&&r.isNone then .wr λst=>.ret (some (.yY st.length),st++[.var (.Cm [])])else bad
def GH(t:Nat)(ok:Bool)(m x:Option D):eH:=bif I1 c t && !ok then match m,asInt x with
 | some (.yY b),some (q,n)=>bif Gu q then .rd λst=>match st[b]? with
  | some (.var (.Cm l))=>.zl (wfI n) (.ret (some (.qj .bool (l.contains n))))
  | _=>.fail
  else bad
 | some .uX,some (q,n)=>bif Gu q then .val (.zl (wfI n) (.ret (some (.qj .bool false))))else bad
 | _,_=>bad
 else bad
def GK(t:Nat)(m x v:Option D):eH:=bif I1 c t then match m,asInt x,asBool v with
 | some (.yY b),some (q,n),some y=>bif Gu q then .wr λst=>match st[b]? with
  | some (.var (.Cm l))=>.zl (z45 y n l) (.ret (none,st.set b (.var (.Cm (l++[n])))))
  | _=>.fail
  else bad
 | _,_,_=>bad
 else bad
def wR(ρ:Operand->Option D)(o:Oper):eH:=match o.op with
 | .move x | .assign x=>.val (.ret (ρ x))
 | .pick x a b=>N6 (ρ x) (ρ a) (ρ b)
 | .alloc t=>pz c t
 | .box t x=>z1d c t o.dst (ρ x)
 | .load t a=>VK c t (ρ a)
 | .store t a v=>YP c t (ρ a) (ρ v)
 | .nilCheck x=>VV (ρ x)
 | .binOp op t x y _=>LQ c op t y (ρ x) (ρ y)
 | .typeAssert x _ t ok=>QN c (ρ x) t ok
 | .unOp op _ x=>z5h op (ρ x)
 | .convert s t x=>convertOp c s t (ρ x)
 | .makeInterface t x=>XM c t (ρ x)
 | .makeMap t r=>Kc c t r
 | .lookup t m x ok=>GH c t ok (ρ m) (ρ x)
 | .mapUpdate t m x v=>GK c t (ρ m) (ρ x) (ρ v)
 | .makeFunc (.func f) first cap=>bif zA first.size 0&&zI f 1000000 then match gO (cap.toList.map ρ)with | some l=>val (.wi f l) | none=>bad
   else bif zA cap.size 0&&zI f 1000000 then match gO (first.toList.map ρ)with | some l=>val (.wi (f+1000000) l) | none=>bad else bad
 | .makeSlice t l m=>MM c t (ρ l) (ρ m)
 | .slice t x lo hi mx=>Ee c t (ρ x) (lo.map ρ) (hi.map ρ) (mx.map ρ)
 | .fieldAddr s x f=>XB c s f (ρ x)
 | .field s x f=>Dn c s f (ρ x)
 | .indexAddr t x i=>XF c t (ρ x) (ρ i)
 | .index t x i=>DG c t (ρ x) (ρ i)
 | .extract x i=>JX (ρ x) i
 | .build t ps=>D4 c t (ps.toList.map λp=>(p.1,ρ p.2))
 | .buildSlice t n ps=>bif z4Q c o.dst&&zA n 0&&zA ps.size 0 then Us c t (cu c t n (ps.toList.map λp=>(p.1,ρ p.2)))else cu c t n (ps.toList.map λp=>(p.1,ρ p.2))
 | .call cl=>match cl.callee with
  | .builtin b=>mo c b cl.argTypes.toList (cl.args.toList.map ρ)
  | .value f=>fB c (ρ f) (cl.args.toList.map ρ)
  | .invoke _ _=>bad
 | _=>bad
def qu:eH->St->T (Option D×St)
 | .val t,st=>t.bind λd=>.ret (d,st)
 | .rd k,st=>(k st).bind λd=>.ret (d,st)
 | .wr k,st=>k st
end ops
def eH.kind:eH->Nat
 | .val _=>0
 | .rd _=>1
 | .wr _=>2
def bP(ops:Array Oper)(j:Nat):Option Nat:=match ops[j]? with | some o=>o.dst | none=>none
def und:D:=.fj []
def gA(n:Nat):Option Nat->Bool
 | some t=>zI t n
 | none=>true
section
variable (c:Ctx)
variable [V0]
def sn(kn:Kn):Operand->Option Bool
 | .tmp t=>kn.get t
 | .const (.bool b)=>some b
 | _=>none
def Be(kn:Kn):Op->Option Bool
 | .move x | .assign x=>sn kn x
 | .pick x a b=>match sn kn x with
  | some true=>sn kn a
  | some false=>sn kn b
  | none=>none
 | _=>none
def QY(kn:Kn)(fr:Fr)(o:Oper):eH:=match o.op with
 | .pick x a b=>match sn kn x with
  | some true=>.val (.ret (bM fr a))
  | some false=>.val (.ret (bM fr b))
  | none=>wR c (bM fr) o
 | _=>wR c (bM fr) o
def Bj(kn:Kn)(dst:Option Nat)(b:Option Bool):Kn:=match dst with | some t=>(t,b)::kn | none=>kn
inductive RK where
 | z (k:Nat) | rd (b:Nat) | wr (free:List Nat) | up (b:Nat) | wc (l:List Nat) | al (free:List Nat)
def RK.base:RK->Nat
 | .z k=>k
 | .rd _=>1
 | .wr _=>2
 | .up _=>2
 | .wc _=>2
 | .al _=>2
def others(n:Nat)(l:List Nat):List Nat:=(List.range n).filter λb => !(l.any (zA b))
def zfc(d:Option D):Option Nat:=match d with
 | some d=>match d with
  | .ptr b _=>some b
  | .gU b _ _ _ _=>some b
  | _=>none
 | none=>none
def C0(bi:Builtin)(l:List (Option D))(st:St):RK:=match bi with
 | .append=>match l with | [some (.ms b _ _ _ _),some x]=>bif UT x then .z 2 else .up b | [some .wF,some x]=>bif UT x then .z 2 else .wr (others st.length []) | _=>.z 2
 | _=>.z 2
def vw(ρ:Operand->Option D)(st:St)(o:Oper):RK:=match(wR c ρ o).kind with
 | 1=>match o.op with
  | .load _ a=>match zfc (ρ a)with | some b=>.rd b | none=>.z 1
  | _=>.z 1
 | 2=>match o.op with
  | .alloc _=>.al (others st.length [])
  | .store _ a _=>match zfc (ρ a)with | some b=>.up b | none=>.z 2
  | .call cl=>match cl.callee with
   | .value f=>match ρ f,gO (cl.args.toList.map ρ)with | some (.wi g caps),some l=>(match c.X3 (eP g) (cj g l caps)with | some hx=>.wc hx | none=>.wr (c.free (eP g) (cj g l caps) st)) | _,_=>.z 2
   | .builtin bi=>C0 bi (cl.args.toList.map ρ) st
   | _=>.z 2
  | _=>.z 2
 | k=>.z k
structure pn where
 fr:Fr
 kn:Kn
 st:St
 ks:List Nat      -- kinds of what has run,the last first
 bk:List RK
def lN(n:Nat)(o:Oper)(s:pn):T pn :=
 bif gA n o.dst then
  let cl:=QY c s.kn s.fr o
  (qu cl s.st).bind λr=>.ret ⟨s.fr.put o.dst r.1,Bj s.kn o.dst (Be s.kn o.op),r.2,cl.kind::s.ks,vw c (bM s.fr) s.st o::s.bk⟩
 else .fail
def de(o:Oper)(s:pn):pn:=⟨s.fr.put o.dst (some und),Bj s.kn o.dst none,s.st,0::s.ks,.z 0::s.bk⟩
def pn.lY(s:pn)(t:Nat)(b:Bool):pn:={ s with kn:=(t,some b)::s.kn }
def stepG(n:Nat)(ops:Array Oper)(o:Oper)(s:pn):T pn:=match o.guard with
 | none=>lN c n o s
 | some (j,want)=>match bP ops j with
  | none=>.fail
  | some t=>match s.kn.get t with
   | some b=>bif b==want then lN c n o s else bif gA n o.dst then .ret (de o s)else .fail
   | none=>match s.fr.get t with
    | some (.qj .bool x)=>bif gA n o.dst then
      .ite x (bif want then lN c n o (s.lY t true)else .ret (de o (s.lY t true)))
          (bif want then .ret (de o (s.lY t false))else lN c n o (s.lY t false))
     else .fail
    | some (.fj [])=>bif gA n o.dst then .ret (de o s)else .fail
    | _=>.fail
def Z4(n:Nat)(ops:Array Oper):List Oper->pn->T pn
 | [],s=>.ret s
 | o::l,s=>(stepG c n ops o s).bind λs'=>Z4 n ops l s'
def tmpsOf(ops:Array Oper)(o:Oper):List Nat :=
 (match o.dst with | some d=>[d] | none=>[]) ++
 (match o.guard with | some (j,_)=>(match bP ops j with | some s=>[s] | none=>[]) | none=>[]) ++
 o.op.operands.toList.filterMap λ| .tmp t=>some t | _=>none
def uc(l:List Oper):List Nat->List Nat
 | acc=>match l with
  | []=>acc
  | o::r=>uc r (acc++[o.after.toList.foldl (λs e=>bif Region.binds .any e then s ||| 2 ^ e.on ||| acc.getD e.on 0 else s) 0])
def ordered(bs:List Nat)(i j:Nat):Bool:=Nat.testBit (bs.getD j 0) i
def cq(k l:Nat):Bool:=(zA k 2 && !zA l 0)||(zA l 2 && !zA k 0)
def N5{K:Type}(cl:K->K->Bool)(bs:List Nat)(xs:List (Nat×Option Nat×List Nat×K))(j:Nat)(dj:Option Nat)(tj:List Nat)(kj:K):Bool :=
 xs.all λx=>ordered bs x.1 j||(!(match x.2.1 with | some d=>tj.contains d | none=>false) && !(match dj with | some d=>x.2.2.1.contains d | none=>false) && !cl x.2.2.2 kj)
def Qq{K:Type}(cl:K->K->Bool)(ops:Array Oper)(bs:List Nat):List Oper->List K->Nat->List (Nat×Option Nat×List Nat×K)->Bool
 | [],_,_,_=>true
 | o::l,k::ks,j,xs=>let tj:=tmpsOf ops o; N5 cl bs xs j o.dst tj k&&Qq cl ops bs l ks (j+1) ((j,o.dst,tj,k)::xs)
 | _,_,_,_=>false
def iO:List Oper->Nat->Bool
 | [],_=>true
 | o::l,j=>o.after.toList.all (λe => !Region.binds .any e||zI e.on j)&&iO l (j+1)
def Od(ops:Array Oper)(ks:List Nat):Bool :=
 let l:=ops.toList
 iO l 0&&Qq cq ops (uc l []) l ks 0 []
def Yl(o:Oper):Bool:=(match o.op with | .alloc _=>true | _=>false)&&o.guard.isNone&&o.dst.isSome
def GC:List Oper->List Nat->List Nat
 | o::l,k::ks=>(bif Yl o then 3 else k)::GC l ks
 | _,_=>[]
def Xm(k l:Nat):Bool:=bif zA k 3&&zA l 3 then false else cq (bif zA k 3 then 2 else k) (bif zA l 3 then 2 else l)
def YW:List Oper->Nat->List Nat
 | [],_=>[]
 | o::l,i=>bif Yl o then i::YW l (i+1)else YW l (i+1)
def EY(bs al:List Nat)(n:Nat):Bool:=(List.range n).all λj => !(al.any λp=>ordered bs p j)||al.all λp=>ordered bs p j
def Oe(ops:Array Oper)(ks:List Nat):Bool :=
 let l:=ops.toList
 iO l 0&&(ks.all λk=>zJ k 2)&&Qq Xm ops (uc l []) l (GC l ks) 0 []&&EY (uc l []) (YW l 0) l.length
def yS:RK->RK->Bool
 | .rd b,.wr A => !(A.any (zA b))
 | .wr A,.rd b => !(A.any (zA b))
 | .rd b,.al A => !(A.any (zA b))
 | .al A,.rd b => !(A.any (zA b))
 | .rd b,.wc hx=>hx.any (zA b)
 | .wc hx,.rd b=>hx.any (zA b)
 | .wc _,.al _=>false
 | .rd b,.up a=>zA a b
 | .up a,.rd b=>zA a b
 | .up a,.up b=>zA a b
 | x,y=>cq x.base y.base
def Of(ops:Array Oper)(ks:List RK):Bool :=
 let l:=ops.toList
 iO l 0&&Qq yS ops (uc l []) l ks 0 []
def VD(ops:Array Oper)(ks:List Nat)(bk:List RK):Bool:=Od ops ks||Oe ops ks||Of ops bk
def ry(n:Nat)(ops:Array Oper)(draw:Bool)(fr:Fr)(kn:Kn)(st:St):T pn :=
 (Z4 c n ops ops.toList ⟨fr,kn,st,[],[]⟩).bind λs=>bif !draw||VD ops s.ks.reverse s.bk.reverse then .ret s else .fail
def yD:List D->Nat->Fr
 | [],_=>[]
 | d::r,i=>(i,some d)::yD r (i+1)
def nX(fr:Fr)(st:St):List ResultVar->T (List D)
 | []=>.ret []
 | .tmp t::r=>match fr.get t with
  | some d=>(nX fr st r).bind λl=>.ret (d::l)
  | none=>.fail
 | .cell a t::r=>match fr.get a with
  | some (.ptr b off)=>match st[b]? with
   | some (.var d)=>bif d.Gv then .fail else match Nv c t d off with
    | some x=>(nX fr st r).bind λl=>.ret (x::l)
    | none=>.fail
   | _=>.fail
  | _=>.fail
def yn(n:Nat):D->Bool
 | .ptr b _=>zI b n
 | .eS b _=>zI b n
 | .yY b=>zI b n
 | .gU b .. => zI b n
 | .ms b .. => zI b n
 | .wi .. | .agg _ | .fj _ | .iface .. => false
 | _=>true
def iC(n:Nat):D->Bool
 | .wi _ l=>l.all (yn n)
 | .agg l=>l.all (yn n)
 | .iface _ d=>yn n d
 | d=>yn n d
def Da(n:Nat):dn->Bool
 | .var d=>iC n d
 | _=>true
end
open Go.RowKit
inductive Rc(w:World)(ok:Nat->Prop):(τ:Ty)->den τ->List Value->Prop
 | int (k:IntKind) (n:Int):Rc w ok (.int k) n [.int k n]
 | bool (b:Bool):Rc w ok .bool b [.bool b]
 | str (s:zn):Rc w ok .str s [.string ⟨s.toArray⟩]
 | mf (e:Ty) (a:Option Addr):Rc w ok (.sl e) ([]:List (den e)) [.slice a 0 0]
 | sl (e:Ty) (l:List (den e)) (blk off cap:Nat) (f:Nat->List Value) (ja:ok blk) (ju:l.length<=cap)
   (h:∀ i (hi:i<l.length),Rc w ok e l[i] (f i))
   (hc:∀ i,i<l.length->∀ j v,(f i)[j]? = some v->w.cell? ⟨blk,off+i*e.size+j,none⟩=some v) :
   Rc w ok (.sl e) l [.slice (some ⟨blk,off,none⟩) l.length cap]
 | nil:Rc w ok .nil () []
 | cons (a b:Ty) (x:den a) (y:den b) (c1 c2:List Value) (h1:Rc w ok a x c1) (X:Rc w ok b y c2):Rc w ok (.cons a b) (x,y) (c1++c2)
 | expr (k:Int) (n:den Cs) (s:zn) (l:List Expr) (cs:List Value) (h:Rc w ok Kz (k,n,s,l,()) cs):Rc w ok .expr (.mk k n s l) cs
def LC(w w':World)(ok KU:Nat->Prop):Prop:=∀ k,ok k->KU k/\w'.heap[k]? = w.heap[k]?
theorem mq{w w':World}{a:Addr}(h:w'.heap[a.block]? = w.heap[a.block]?):w'.cell? a=w.cell? a:=by simp[World.cell?,h]
section
variable {w w':World} {ok KU:Nat->Prop}
theorem Rc.mono{τ:Ty}{x:den τ}{cs:List Value}(hs:LC w w' ok KU)(h:Rc w ok τ x cs):Rc w' KU τ x cs:=by
 induction h with
 | int k n=>exact .int k n
 | bool b=>exact .bool b
 | str s=>exact .str s
 | mf e a=>exact .mf e a
 | sl e l blk off cap f ja ju h hc ih=>exact .sl e l blk off cap f (hs _ ja).1 ju ih λi hi j v hv=>by rw[mq (hs _ ja).2]; exact hc i hi j v hv
 | nil=>exact .nil
 | cons a b x y c1 c2 h1 X i1 i2=>exact .cons a b x y c1 c2 i1 i2
 | expr k n s l cs h ih=>exact .expr k n s l cs ih
theorem Rc.len{τ:Ty}{x:den τ}{cs:List Value}(h:Rc w ok τ x cs):cs.length=τ.size:=by
 induction h with
 | cons a b x y c1 c2 h1 X i1 i2=>simp[Ty.size,i1,i2]
 | expr k n s l cs h ih=>simpa[Ty.size]using ih
 | _=>rfl
theorem Rc.one{τ:Ty}{x:den τ}{cs:List Value}(h:Rc w ok τ x cs):∀ v∈cs,v.oneCell'=true:=by
 induction h with
 | cons a b x y c1 c2 h1 X i1 i2=>grind
 | expr k n s l cs h ih=>exact ih
 | _=>intro v hv; simp at hv; try (subst hv; rfl)
theorem Rc.eB{k:IntKind}{n:Int}{cs:List Value}(h:Rc w ok (.int k) n cs):cs=[.int k n]:=by cases h; rfl
theorem Rc.cK{n:Bool}{cs:List Value}(h:Rc w ok .bool n cs):cs=[.bool n]:=by cases h; rfl
theorem Rc.jq{n:zn}{cs:List Value}(h:Rc w ok .str n cs):cs=[.string ⟨n.toArray⟩]:=by cases h; rfl
theorem Rc.cons_inv{a b:Ty}{x:den (.cons a b)}{cs:List Value}(h:Rc w ok (.cons a b) x cs):∃ c1 c2,cs=c1++c2/\Rc w ok a x.1 c1/\Rc w ok b x.2 c2:=by
 cases h with | cons _ _ x y c1 c2 h1 X=>exact⟨c1,c2,rfl,h1,X⟩
theorem Rc.wg{x:den .nil}{cs:List Value}(h:Rc w ok .nil x cs):cs=[]:=by cases h; rfl
theorem Rc.Fx{x:Expr}{cs:List Value}(h:Rc w ok .expr x cs):Rc w ok Kz x.z1F cs:=by cases h with | expr k n s l cs h=>exact h
theorem Rc.Z5{e:Ty}{l:List (den e)}{cs:List Value}(h:Rc w ok (.sl e) l cs):(l=[]/\∃ a,cs=[.slice a 0 0]) \/
  ∃ (blk off cap:Nat) (f:Nat->List Value),cs=[.slice (some ⟨blk,off,none⟩) l.length cap]/\ok blk/\l.length<=cap/\(∀ i (hi:i<l.length),Rc w ok e l[i] (f i)) /\
   (∀ i,i<l.length->∀ j v,(f i)[j]? = some v->w.cell? ⟨blk,off+i*e.size+j,none⟩=some v):=by
 cases h with
 | mf _ a=>simp
 | sl _ _ blk off cap f ja ju h hc=>exact .inr ⟨blk,off,cap,f,rfl,ja,ju,h,hc⟩
end
def pk(τ:Ty)(cs:List Value):Value:=if τ.isAgg then .agg cs.toArray else cs.headD undef
structure KS where
 w:World
 ok:Nat->Prop
 ph:List (Option (Nat×Nat))
 st:St
def NW(ph:List (Option (Nat×Nat)))(b zqy:Nat)(e:Ty)(off len:Nat)(v:Value):Prop :=
 off+len<=zqy/\((len=0/\off=0/\v=.slice none 0 0/\ph[b]? = some none) \/
  ∃ (blk n o cap:Nat),ph[b]? = some (some (blk,n))/\v=.slice (some ⟨blk,o,none⟩) len cap/\len<=cap/\(off+cap)*e.size<=n/\(cap=0\/o=off*e.size))
def Old(st:St)(b vn:Nat):Prop:=st[b]? = some .dead\/∃ (v0:Nat) (e0:Ty) (Uf:List (den e0)),st[b]? = some (.arr v0 e0 Uf)/\vn<=v0
def D.one:D->Bool
 | .qj τ _ => !τ.isAgg
 | .agg _ | .fj _=>false
 | _=>true
def X8(f:Nat)(vs:List Value):Value:=bif zJ 1000000 f then .func (.func (f % 1000000)) vs.toArray #[]else .func (.func f) #[] vs.toArray
theorem D9{f:Nat}(h:zI f 1000000=true)(vs:List Value):X8 f vs=.func (.func f) #[] vs.toArray:=by
 have:zJ 1000000 f=false:=by
  cases J:zJ 1000000 f with
  | false=>rfl
  | true=>have h1:=zK J; have X:=zK h; omega
 unfold X8; rw[this]; rfl
theorem M1{f:Nat}(h:zI f 1000000=true)(vs:List Value):X8 (f+1000000) vs=.func (.func f) vs.toArray #[]:=by
 have h1:zJ 1000000 (f+1000000)=true:=Nat.ble_eq_true_of_le (Z)
 have X:=zK h
 have h3:(f+1000000) % 1000000=f:=Z
 unfold X8; rw[h1,h3]; rfl
theorem Gb(f:Nat)(vs:List Value):(X8 f vs).cells.toList=[X8 f vs]:=by
 unfold X8; cases zJ 1000000 f<;>rfl
theorem z1k(f:Nat)(vs:List Value):(X8 f vs).oneCell'=true:=by
 unfold X8; cases zJ 1000000 f<;>rfl
theorem Ga(f:Nat)(vs:List Value):∃ g a b,X8 f vs=.func (.func g) a b:=by
 unfold X8; cases zJ 1000000 f<;>exact⟨_,_,_,rfl⟩
inductive RD(O:KS):D->Value->Prop
 | qj (τ:Ty) (x:den τ) (cs:List Value) (h:Rc O.w O.ok τ x cs):RD O (.qj τ x) (pk τ cs)
 | vB (e:Ty) (a:Option Addr):RD O (.tight e ([]:List (den e)) false) (.slice a 0 0)
 | tight (e:Ty) (l:List (den e)) (ne:Bool) (blk off:Nat) (f:Nat->List Value) (ku:ne=true->l≠[]) (ja:O.ok blk)
   (h:∀ i (hi:i<l.length),Rc O.w O.ok e l[i] (f i))
   (hc:∀ i,i<l.length->∀ j v,(f i)[j]? = some v->O.w.cell? ⟨blk,off+i*e.size+j,none⟩=some v) :
   RD O (.tight e l ne) (.slice (some ⟨blk,off,none⟩) l.length l.length)
 | tc (e:Ty) (l:List (den e)) (b:Bool) (v:Value) (h:Rc O.w O.ok (.sl e) l [v]) (ht:b=true->∃ blk off cap,v=.slice (some ⟨blk,off,none⟩) l.length cap/\(l=[]->cap=0)) (hf:b=false->v=.slice none 0 0):RD O (.tc e l b) v
 | wF:RD O .wF (.slice none 0 0)
 | bq:RD O .bq (.pointer none)
 | vb:RD O .vb .nilIface
 | gC:RD O .gC .nilFunc
 | uX:RD O .uX (.map none)
 | Vq (v:Value) (h:v.oneCell'=true):RD O .Vq v
 | nD (T:Nat):RD O (.nD T) (.pointer none)
 | yY (b blk n:Nat) (d:D) (V:O.st[b]? = some (.var d)) (h:O.ph[b]? = some (some (blk,n))):RD O (.yY b) (.map (some blk))
 | nV (b T:Nat) (d:D) (V:O.st[b]? = some (.var d)):RD O (.eS b T) (.pointer none)
 | nW (b T blk n:Nat) (d:D) (V:O.st[b]? = some (.var d)) (h:O.ph[b]? = some (some (blk,n))):RD O (.eS b T) (.pointer (some ⟨blk,0,none⟩))
 | ptr (b off blk n:Nat) (d:D) (V:O.st[b]? = some (.var d)) (h:O.ph[b]? = some (some (blk,n))):RD O (.ptr b off) (.pointer (some ⟨blk,off,none⟩))
 | vC (τ:Ty) (x:den τ) (cs:List Value) (blk off:Nat) (ja:O.ok blk) (h:Rc O.w O.ok τ x cs)
   (hc:∀ j v,cs[j]? = some v->O.w.cell? ⟨blk,off+j,none⟩=some v):RD O (.vC τ x) (.pointer (some ⟨blk,off,none⟩))
 | gU (b vn:Nat) (e:Ty) (idx off blk o:Nat) (J:Old O.st b vn)
   (h:∀ xs:List (den e),O.st[b]? = some (.arr vn e xs)->idx<xs.length->∃ n:Nat,O.ph[b]? = some (some (blk,n))/\o=idx*e.size+off) :
   RD O (.gU b vn e idx off) (.pointer (some ⟨blk,o,none⟩))
 | ms (b vn:Nat) (e:Ty) (off len cap:Nat) (a:Option Addr) (J:Old O.st b vn) (ju:len<=cap) (ha:a=none->cap=0) (V7:∀ p,a=some p->p.spot=none)
   (h:∀ xs:List (den e),O.st[b]? = some (.arr vn e xs)->NW O.ph b xs.length e off len (.slice a len cap)):RD O (.ms b vn e off len) (.slice a len cap)
 | wi (f:Nat) (l:List D) (vs:List Value) (B:l.length=vs.length) (h:∀ i (h1:i<l.length) (X:i<vs.length),RD O l[i] vs[i]):RD O (.wi f l) (X8 f vs)
 | agg (l:List D) (vs:List Value) (B:l.length=vs.length) (ho:∀ d∈l,d.one=true) (h:∀ i (h1:i<l.length) (X:i<vs.length),RD O l[i] vs[i]):RD O (.agg l) (.agg vs.toArray)
 | fj (l:List D) (vs:List Value) (B:l.length=vs.length) (h:∀ i (h1:i<l.length) (X:i<vs.length),RD O l[i] vs[i]):RD O (.fj l) (.tuple vs.toArray)
 | iface (t:Nat) (d:D) (v:Value) (h:RD O d v):RD O (.iface t d) (.iface t v)
def wP(O:KS)(l:List D)(vs:List Value):Prop:=l.length=vs.length/\∀ i (h1:i<l.length) (X:i<vs.length),RD O l[i] vs[i]
def z0V(o:Obj)(l:List Int):Prop:=∀ (P:Program) (k e:TypeId),P.underlying k=some (.int .i64)->P.underlying e=some .bool->∀ (w:World) (b:Nat),w.heap[b]? = some o ->
 ∃ D:DataW Unit,w.ownsMap P k (plainElem P e) b l.length D/\Go.Maps.IsMap D/\∀ n,(Lit.int .i64 n).wf=true->D.atKey (.int .i64 n) (.lit (.bool false))=.lit (.bool (l.contains n))
def Cells(O:KS)(b:Nat)(d:D):Prop:=∃ (blk n:Nat) (cs:Array Value) (t:TypeId),O.ph[b]? = some (some (blk,n))/\O.w.heap[blk]? = some (.cells cs t (0,0))/\cs.size=n/\wP O (xz d) cs.toList/\(∀ x∈xz d,x.one=true)/\∀ T,d.typed=some T->t=T
def Maps(O:KS)(b:Nat)(l:List Int):Prop:=∃ (blk:Nat) (o:Obj),O.ph[b]? = some (some (blk,0))/\O.w.heap[blk]? = some o/\z0V o l
def y7(O:KS)(b:Nat)(d:D):Prop:=match d with
 | .Cm l=>Maps O b l
 | d=>Cells O b d
theorem y7.elim{O:KS}{b:Nat}{d:D}{p:Prop}(h:y7 O b d)(h1:d.Gv=false->Cells O b d->p)(X:∀ l,d=.Cm l->Maps O b l->p):p:=by
 cases d<;>first | exact X _ rfl h | exact h1 rfl h
theorem y7.cells{O:KS}{b:Nat}{d:D}(h:y7 O b d)(hm:d.Gv=false):Cells O b d:=h.elim (λ_ h=>h) λl e _=>by subst e; cases hm
theorem y7.mk{O:KS}{b:Nat}{d:D}(hm:d.Gv=false)(h:Cells O b d):y7 O b d:=by
 cases d<;>first | exact h | cases hm
def rC[V0](O:KS)(b:Nat):dn->Prop
 | .dead=>True
 | .var d=>y7 O b d
 | .arr _ e xs=>0<e.size/\((xs=[]/\O.ph[b]? = some none) \/
   ∃ (blk n:Nat) (cs:Array Value) (t:TypeId),O.ph[b]? = some (some (blk,n))/\O.w.heap[blk]? = some (.cells cs t (0,0))/\cs.size=n/\xs.length*e.size<=n/\zca e t /\
    ∃ f:Nat->List Value,∀ i (hi:i<xs.length),Rc O.w O.ok e xs[i] (f i)/\∀ j v,(f i)[j]? = some v->cs[i*e.size+j]? = some v)
class gy extends V0 where
 tab:List (Nat×(Obj->Prop))
def Vt[gy](w:World)(ok:Nat->Prop):Prop:=∀ x∈gy.tab,ok x.1/\∃ o,w.heap[x.1]? = some o/\x.2 o
theorem Vt.mono[gy]{w w':World}{ok KU:Nat->Prop}(h:Vt w ok)(hs:LC w w' ok KU):Vt w' KU:=λx U=>by
 obtain⟨h1,o,X,h3⟩:=h x U
 obtain⟨g1,g2⟩:=hs _ h1
 grind
structure Inv[gy](O:KS):Prop where
 len:O.ph.length=O.st.length
 cp:∀ k,O.ok k->k<O.w.heap.size
 apart:∀ (b blk n:Nat),O.ph[b]? = some (some (blk,n))->blk<O.w.heap.size/\¬ O.ok blk
 inj:∀ (b b' blk n n':Nat),O.ph[b]? = some (some (blk,n))->O.ph[b']? = some (some (blk,n'))->b=b'
 blk:∀ (b:Nat) (x:dn),O.st[b]? = some x->rC O b x
 gl:Vt O.w O.ok
structure Ext(O E:KS):Prop where
 os:E.w.os=O.w.os
 tape:E.w.tape=O.w.tape
 output:E.w.output=O.w.output
 size:O.w.heap.size<=E.w.heap.size
 same:LC O.w E.w O.ok E.ok
 fresh:∀ k,E.ok k->O.ok k\/O.w.heap.size<=k\/∃ b n:Nat,O.ph[b]? = some (some (k,n))
 phs:∀ (b blk n:Nat),E.ph[b]? = some (some (blk,n))->O.ph[b]? = some (some (blk,n))\/O.w.heap.size<=blk
 var:∀ (b:Nat) (d:D),O.st[b]? = some (.var d)->(∃ d',E.st[b]? = some (.var d'))/\E.ph[b]? = O.ph[b]?
 arr:∀ (b v0:Nat) (e:Ty) (Uf:List (den e)),O.st[b]? = some (.arr v0 e Uf)->E.st[b]? = some .dead \/
  ∃ (v1:Nat) (xs1:List (den e)),E.st[b]? = some (.arr v1 e xs1)/\v0<=v1/\(v0=v1->E.ph[b]? = O.ph[b]? /\ Uf.length=xs1.length)
 dead:∀ (b:Nat),O.st[b]? = some .dead->E.st[b]? = some .dead
 IW:O.st.length<=E.st.length
 frame:∀ k,k<O.w.heap.size->(∀ (b n:Nat),O.ph[b]? ≠ some (some (k,n)))->E.w.heap[k]? = O.w.heap[k]?
theorem Ext.refl(O:KS):Ext O O :=
 ⟨rfl,rfl,rfl,zF _,λ_ h=>⟨h,rfl⟩,λ_ h=>.inl h,λ_ _ _ h=>.inl h,λ_ d h=>⟨⟨d,h⟩,rfl⟩,
  λ_ vn _ xs h=>.inr ⟨vn,xs,h,zF _,λ_=>⟨rfl,rfl⟩⟩,λ_ h=>h,zF _,λ_ _ _=>rfl⟩
theorem Ext.trans{a b c:KS}(h:Ext a b)(k:Ext b c):Ext a c:=by
 refine⟨k.os.trans h.os,k.tape.trans h.tape,k.output.trans h.output,zS h.size k.size,?_,?_,?_,?_,?_,λb J=>k.dead b (h.dead b J),zS h.IW k.IW,?_⟩
 ·intro i hi
  obtain⟨h1,X⟩:=h.same i hi
  obtain⟨h3,h4⟩:=k.same i h1
  grind
 ·intro i hi
  rcases k.fresh i hi with h1 | h1 | ⟨b,n,h1⟩
  ·exact h.fresh i h1
  ·exact .inr (.inl (zS h.size h1))
  ·rcases h.phs b i n h1 with X | X
   ·grind
   ·grind
 ·intro i blk n hi
  rcases k.phs i blk n hi with h1 | h1
  ·exact h.phs i blk n h1
  ·exact .inr (zS h.size h1)
 ·intro i d hi
  obtain⟨⟨d',eR⟩,hp⟩:=h.var i d hi
  obtain⟨zuR,hp'⟩:=k.var i d' eR
  grind
 ·intro i v0 e Uf hi
  rcases h.arr i v0 e Uf hi with h1 | ⟨v1,x1,h1,X,h3⟩
  ·exact .inl (k.dead i h1)
  ·rcases k.arr i v1 e x1 h1 with g1 | ⟨v2,x2,g1,g2,g3⟩
   ·grind
   ·grind
 ·intro i hi hn
  refine(k.frame i (Nat.lt_of_lt_of_le hi h.size) λb n J => ?_).trans (h.frame i hi hn)
  rcases h.phs b i n J with h1 | h1
  ·grind
  ·omega
theorem Ext.old{O E:KS}(x:Ext O E){b vn:Nat}(h:Old O.st b vn):Old E.st b vn:=by
 rcases h with h | ⟨v0,e0,Uf,h,hv⟩
 ·exact .inl (x.dead b h)
 ·rcases x.arr b v0 e0 Uf h with h1 | ⟨v1,x1,h1,X,_⟩
  ·exact .inl h1
  ·exact .inr ⟨v1,e0,x1,h1,zS hv X⟩
theorem Ext.back{O E:KS}(x:Ext O E){b vn:Nat}(h:Old O.st b vn){e:Ty}{xs:List (den e)}(U:E.st[b]? = some (.arr vn e xs)) :
  ∃ Uf:List (den e),O.st[b]? = some (.arr vn e Uf)/\E.ph[b]? = O.ph[b]? /\ Uf.length=xs.length:=by
 rcases h with h | ⟨v0,e0,Uf,h,hv⟩
 ·have:=x.dead b h; rw[U]at this; cases this
 ·rcases x.arr b v0 e0 Uf h with h1 | ⟨v1,x1,h1,X,h3⟩
  ·grind
  ·grind
theorem RD.mono{O E:KS}(x:Ext O E){d:D}{v:Value}(h:RD O d v):RD E d v:=by
 induction h with
 | qj τ y cs h=>exact .qj τ y cs (h.mono x.same)
 | vB e a=>exact .vB e a
 | tight e l ne blk off f ku ja h hc=>exact .tight e l ne blk off f ku (x.same _ ja).1 (λi hi=>(h i hi).mono x.same) λi hi j v hv=>by rw[mq (x.same _ ja).2]; exact hc i hi j v hv
 | tc e l b v h ht hf=>exact .tc e l b v (h.mono x.same) ht hf
 | wF=>exact .wF
 | bq=>exact .bq
 | vb=>exact .vb
 | gC=>exact .gC
 | uX=>exact .uX
 | Vq v h=>exact .Vq v h
 | nD T=>exact .nD T
 | nV b T d V =>
  obtain⟨⟨d',eR⟩,hp⟩:=x.var b d V
  exact .nV b T d' eR
 | yY b blk n d V h =>
  obtain⟨⟨d',eR⟩,hp⟩:=x.var b d V
  exact .yY b blk n d' eR (hp.trans h)
 | nW b T blk n d V h =>
  obtain⟨⟨d',eR⟩,hp⟩:=x.var b d V
  exact .nW b T blk n d' eR (hp.trans h)
 | ptr b off blk n d V h =>
  obtain⟨⟨d',eR⟩,hp⟩:=x.var b d V
  exact .ptr b off blk n d' eR (hp.trans h)
 | vC τ y cs blk off ja h hc=>exact .vC τ y cs blk off (x.same _ ja).1 (h.mono x.same) λj v hv=>by rw[mq (x.same _ ja).2]; exact hc j v hv
 | gU b vn e idx off blk o J h =>
  refine .gU b vn e idx off blk o (x.old J) λxs U hi => ?_
  obtain⟨Uf,h1,X,h3⟩:=x.back J U
  grind
 | ms b vn e off len cap a J ju ha V7 h =>
  refine .ms b vn e off len cap a (x.old J) ju ha V7 λxs U => ?_
  obtain⟨Uf,h1,X,h3⟩:=x.back J U
  have:=h Uf h1
  unfold NW at this ⊢
  grind
 | wi f l vs B h ih=>exact .wi f l vs B ih
 | agg l vs B ho h ih=>exact .agg l vs B ho ih
 | fj l vs B h ih=>exact .fj l vs B ih
 | iface t d v h ih=>exact .iface t d v ih
end Go.AM
namespace Go.AM
section
variable {α β:Type}
theorem T.xf{t:T α}{k:α->T β}{b:β}:(t.bind k).leads b↔∃ a,t.leads a/\(k a).leads b:=by
 induction t with
 | ret a=>simp[T.bind,T.leads]
 | ite c t e i1 i2 =>
  simp only[T.bind,T.leads]
  grind
 | zl p t ih =>
  simp only[T.bind,T.leads]; constructor
  ·grind
  ·grind
 | fail=>simp[T.bind,T.leads]
theorem T.Le{t:T α}{Q:α->Prop}(h:t.wp Q):∃ a,t.leads a/\Q a:=by
 induction t with
 | ret a=>exact⟨a,rfl,h⟩
 | ite c t e i1 i2 =>
  cases c with
  | true=>obtain⟨a,x,y⟩:=i1 (h.1 rfl); exact⟨a,.inl ⟨rfl,x⟩,y⟩
  | false=>obtain⟨a,x,y⟩:=i2 (h.2 rfl); exact⟨a,.inr ⟨rfl,x⟩,y⟩
 | zl p t ih=>obtain⟨a,x,y⟩:=ih h.2; exact⟨a,⟨h.1,x⟩,y⟩
 | fail=>exact h.elim
theorem T.Y9{t:T α}{Q:α->Prop}{a:α}(h:t.leads a)(hq:Q a):t.wp Q:=by
 induction t with
 | ret x=>cases h; exact hq
 | ite c t e i1 i2 =>
  rcases h with⟨h1,X⟩ | ⟨h1,X⟩
  ·exact⟨λ_=>i1 X,λk=>absurd (h1.symm.trans k) (qw)⟩
  ·exact⟨λk=>absurd (h1.symm.trans k) (qw),λ_=>i2 X⟩
 | zl p t ih=>exact⟨h.1,ih h.2⟩
 | fail=>exact h.elim
theorem T.yH{o:Option α}{a:α}:(T.GX o).leads a↔o=some a:=by cases o<;>simp[T.GX,T.leads]
end
section
variable {O:KS}
theorem wP.nil:wP O [] []:=⟨rfl,λi h _=>absurd h (Nat.not_lt_zero i)⟩
theorem wP.cons{d:D}{v:Value}{l:List D}{vs:List Value}(h:RD O d v)(t:wP O l vs):wP O (d::l) (v::vs) :=
 ⟨by simp[t.1],λi h1 X=>by cases i with | zero=>exact h | succ i=>exact t.2 i (wa) (wa)⟩
theorem wP.cons_inv{d:D}{l:List D}{vs:List Value}(h:wP O (d::l) vs):∃ v r,vs=v::r/\RD O d v/\wP O l r:=by
 obtain⟨B,h⟩:=h
 cases vs with
 | nil=>simp at B
 | cons v r=>exact⟨v,r,rfl,h 0 (qw) (qw),wa,λi h1 X=>h (i+1) (wa) (wa)⟩
theorem wP.wg{vs:List Value}(h:wP O [] vs):vs=[]:=List.eq_nil_of_length_eq_zero h.1.symm
theorem wP.append{l l':List D}{vs vs':List Value}(h:wP O l vs)(h':wP O l' vs'):wP O (l++l') (vs++vs'):=by
 induction l generalizing vs with
 | nil=>rw[h.wg]; exact h'
 | cons d l ih=>obtain⟨v,r,rfl,h1,X⟩:=h.cons_inv; exact .cons h1 (ih X)
theorem wP.LG{l l':List D}{vs:List Value}(h:wP O (l++l') vs):∃ v1 v2,vs=v1++v2/\wP O l v1/\wP O l' v2:=by
 induction l generalizing vs with
 | nil=>exact⟨[],vs,rfl,.nil,h⟩
 | cons d l ih =>
  obtain⟨v,r,rfl,h1,X⟩:=h.cons_inv
  obtain⟨v1,v2,rfl,h3,h4⟩:=ih X
  exact⟨v::v1,v2,rfl,.cons h1 h3,h4⟩
theorem wP.get{l:List D}{vs:List Value}(h:wP O l vs){i:Nat}{d:D}(V:l[i]? = some d):∃ v,vs[i]? = some v/\RD O d v:=by
 obtain⟨wO,he⟩:=List.getElem?_eq_some_iff.1 V
 have X:i<vs.length:=h.1▸wO
 exact⟨vs[i],zP X,he▸h.2 i wO X⟩
theorem wP.take{l:List D}{vs:List Value}(h:wP O l vs)(n:Nat):wP O (l.take n) (vs.take n) :=
 ⟨by simp[h.1],λi h1 X=>by simp; exact h.2 i (wa) (wa)⟩
theorem wP.drop{l:List D}{vs:List Value}(h:wP O l vs)(n:Nat):wP O (l.drop n) (vs.drop n) :=
 ⟨by simp[h.1],λi h1 X=>by simp; exact h.2 (n+i) (wa) (wa)⟩
theorem wP.mono{E:KS}(x:Ext O E){l:List D}{vs:List Value}(h:wP O l vs):wP E l vs:=⟨h.1,λi h1 X=>(h.2 i h1 X).mono x⟩
theorem Jj{τ:Ty}{cs:List Value}(h:cs.length=τ.size)(Qe:∀ v∈cs,v.oneCell'=true):(pk τ cs).cells.toList=cs:=by
 unfold pk
 split
 ·rfl
 ·rename_i hn
  have hs:τ.size=1:=by cases τ<;>simp[Ty.isAgg]at hn<;>rfl
  match cs,h,Qe with
  | [v],_,Qe =>
   have:=Qe v (qw)
   cases v<;>first | rfl | cases this
  | [],h,_=>grind
  | _::_::_,h,_=>grind
theorem H7{τ:Ty}(h:τ.isAgg=false)(v:Value):pk τ [v]=v:=by simp[pk,h]
theorem KV{τ:Ty}(h:τ.isAgg=false):τ.size=1:=by cases τ<;>simp[Ty.isAgg]at h<;>rfl
theorem Rc.single{w:World}{ok:Nat->Prop}{τ:Ty}{x:den τ}{cs:List Value}(h:Rc w ok τ x cs)(ht:τ.isAgg=false):∃ v,cs=[v]:=by
 have:=h.len
 rw[KV ht]at this
 match cs,this with
 | [v],_=>simp
theorem RD.Zr{τ:Ty}{x:den τ}{v:Value}(ht:τ.isAgg=false)(h:Rc O.w O.ok τ x [v]):RD O (.qj τ x) v:=by
 have:=RD.qj τ x [v] h
 rwa [H7 ht]at this
theorem RD.du{τ:Ty}{x:den τ}{v:Value}(h:RD O (.qj τ x) v):∃ cs,Rc O.w O.ok τ x cs/\v=pk τ cs:=by
 cases h with | qj _ _ cs h=>exact⟨cs,h,rfl⟩
theorem RD.jP{τ:Ty}{x:den τ}{v:Value}(h:RD O (.qj τ x) v)(ht:τ.isAgg=false):Rc O.w O.ok τ x [v]:=by
 obtain⟨cs,hc,rfl⟩:=RD.du h
 obtain⟨u,rfl⟩:=hc.single ht
 rwa [H7 ht]
theorem RD.int{k:IntKind}{n:Int}:RD O (.qj (.int k) n) (.int k n):=RD.Zr rfl (.int k n)
theorem RD.bool{b:Bool}:RD O (.qj .bool b) (.bool b):=RD.Zr rfl (.bool b)
theorem RD.str{s:zn}:RD O (.qj .str s) (.string ⟨s.toArray⟩):=RD.Zr rfl (.str s)
theorem RD.eB{k:IntKind}{n:Int}{v:Value}(h:RD O (.qj (.int k) n) v):v=.int k n:=by have:=(h.jP rfl).eB; simpa using this
theorem RD.cK{b:Bool}{v:Value}(h:RD O (.qj .bool b) v):v=.bool b:=by have:=(h.jP rfl).cK; simpa using this
theorem RD.jq{s:zn}{v:Value}(h:RD O (.qj .str s) v):v=.string ⟨s.toArray⟩:=by have:=(h.jP rfl).jq; simpa using this
theorem wP.one{d:D}{v:Value}(h:RD O d v):wP O [d] [v]:=.cons h .nil
theorem XC{τ:Ty}{x:den τ}{cs:List Value}(h:Rc O.w O.ok τ x cs):wP O (flat τ x) cs:=by
 induction τ generalizing cs with
 | int k=>obtain⟨v,rfl⟩:=h.single rfl; exact .one (.Zr rfl h)
 | bool=>obtain⟨v,rfl⟩:=h.single rfl; exact .one (.Zr rfl h)
 | str=>obtain⟨v,rfl⟩:=h.single rfl; exact .one (.Zr rfl h)
 | sl e _=>obtain⟨v,rfl⟩:=h.single rfl; exact .one (.Zr rfl h)
 | nil=>rw[h.wg]; exact .nil
 | cons a b i1 i2=>obtain⟨c1,c2,rfl,h1,X⟩:=h.cons_inv; exact(i1 h1).append (i2 X)
 | expr =>
  obtain⟨c1,r1,rfl,h1,t1⟩:=h.Fx.cons_inv
  obtain⟨c2,r2,rfl,X,t2⟩:=t1.cons_inv
  obtain⟨c3,r3,rfl,h3,t3⟩:=t2.cons_inv
  obtain⟨c4,r4,rfl,h4,t4⟩:=t3.cons_inv
  have e4:=t4.wg
  subst e4
  obtain⟨d1,s1,rfl,g1,u1⟩:=X.cons_inv
  obtain⟨d2,s2,rfl,g2,u2⟩:=u1.cons_inv
  obtain⟨d3,s3,rfl,g3,u3⟩:=u2.cons_inv
  have e5:=u3.wg
  subst e5
  obtain⟨v1,rfl⟩:=h1.single rfl
  obtain⟨v3,rfl⟩:=h3.single rfl
  obtain⟨v4,rfl⟩:=h4.single rfl
  obtain⟨u1,rfl⟩:=g1.single rfl
  obtain⟨u2,rfl⟩:=g2.single rfl
  obtain⟨u3,rfl⟩:=g3.single rfl
  exact .cons (.Zr rfl h1) (.cons (.Zr rfl g1) (.cons (.Zr rfl g2) (.cons (.Zr rfl g3) (.cons (.Zr rfl h3) (.cons (.Zr rfl h4) .nil)))))
theorem se:∀ (τ:Ty) (x:den τ),∀ d∈flat τ x,d.one=true
 | .int _,_,d,h | .bool,_,d,h | .str,_,d,h | .sl _,_,d,h=>by simp[flat]at h; subst h; rfl
 | .nil,_,d,h=>by simp[flat]at h
 | .cons a b,x,d,h=>by
  simp only[flat,List.mem_append]at h
  rcases h with h | h
  ·exact se a x.1 d h
  ·exact se b x.2 d h
 | .expr,x,d,h=>by simp[flat]at h; rcases h with rfl | rfl | rfl | rfl | rfl | rfl<;>rfl
theorem UK:∀ (τ:Ty) (x:den τ),(flat τ x).length=τ.size
 | .int _,_ | .bool,_ | .str,_ | .sl _,_ | .nil,_ | .expr,_=>rfl
 | .cons a b,x=>by simp[flat,Ty.size,UK a,UK b]
theorem WH{v:Value}(h:v.oneCell'=true):v.cells = #[v]:=by
 cases v<;>first | rfl | cases h
theorem cR{d:D}{v:Value}(h:RD O d v)(ht:d.bQ=false):wP O (xz d) v.cells.toList:=by
 cases h with
 | qj τ x cs h=>rw[Jj h.len h.one]; exact XC h
 | agg l vs B ho h=>exact⟨by simpa[qA,xz]using B,λi h1 X=>by simp at X ⊢; exact h i h1 X⟩
 | fj=>cases ht
 | vB e a=>exact .one (.vB e a)
 | tight e l ne blk off f ku ja h hc=>exact .one (.tight e l ne blk off f ku ja h hc)
 | tc e l b v h ht hf=>rw[WH (h.one v (qw))]; exact .one (.tc e l b v h ht hf)
 | wF=>exact .one .wF
 | bq=>exact .one .bq
 | vb=>exact .one .vb
 | gC=>exact .one .gC
 | uX=>exact .one .uX
 | Vq v h=>rw[WH h]; exact .one (.Vq v h)
 | nD T=>exact .one (.nD T)
 | yY b blk n d V h=>exact .one (.yY b blk n d V h)
 | nV b T d V=>exact .one (.nV b T d V)
 | nW b T blk n d V h=>exact .one (.nW b T blk n d V h)
 | ptr b off blk n d V h=>exact .one (.ptr b off blk n d V h)
 | vC τ x cs blk off ja h hc=>exact .one (.vC τ x cs blk off ja h hc)
 | gU b vn e idx off blk o J h=>exact .one (.gU b vn e idx off blk o J h)
 | ms b vn e off len cap a J ju ha V7 h=>exact .one (.ms b vn e off len cap a J ju ha V7 h)
 | wi f l vs B h=>rw[Gb]; exact .one (.wi f l vs B h)
 | iface t d v h=>exact .one (.iface t d v h)
theorem cQ{d:D}{v:Value}(h:RD O d v):∀ x∈xz d,x.one=true:=by
 cases h with
 | qj τ x cs h=>exact se τ x
 | agg l vs B ho h=>exact ho
 | fj=>nofun
 | _=>intro x U; simp[xz]at U; subst U; rfl
theorem RD.YH{d:D}{v:Value}(h:RD O d v)(ho:d.one=true):v.oneCell'=true:=by
 cases h with
 | qj τ x cs h =>
  have ht:τ.isAgg=false:=by simpa[D.one]using ho
  obtain⟨v,rfl⟩:=h.single ht
  rw[H7 ht]
  exact h.one v (qw)
 | agg=>cases ho
 | fj=>cases ho
 | Vq v h=>exact h
 | wi f l vs=>exact z1k f vs
 | tc e l b v h=>exact h.one v (qw)
 | _=>rfl
theorem wh{a b:Ty}{x:den a}{y:den b}(h:(jX x:Option (den b))=some y):∃ e:a=b,y=e▸x:=by
 unfold jX at h
 grind
theorem eW{τ:Ty}{d:D}{v:Value}{x:den τ}(h:RD O d v)(U:rH τ d=some x)(ht:τ.isAgg=false):Rc O.w O.ok τ x [v]:=by
 cases h with
 | qj σ y cs h =>
  obtain⟨rfl,rfl⟩:=wh U
  obtain⟨u,rfl⟩:=h.single ht
  rwa [H7 ht]
 | vB e a=>obtain⟨rfl,rfl⟩:=wh U; exact .mf e a
 | tight e l ne blk off f ku ja h hc=>obtain⟨rfl,rfl⟩:=wh U; exact .sl e _ blk off _ f ja (zF _) h hc
 | tc e l b v h ht hf=>obtain⟨rfl,rfl⟩:=wh U; exact h
 | wF =>
  cases τ with
  | sl e=>simp[rH]at U; subst U; exact .mf e none
  | _=>simp[rH]at U
 | _=>simp[rH]at U
theorem WZ:∀ (τ:Ty) {ds:List D} {vs:List Value} {x:den τ} {r:List D},wP O ds vs->dm τ ds=some (x,r) ->
  ∃ c1 c2,vs=c1++c2/\Rc O.w O.ok τ x c1/\wP O r c2
 | .int k,[],_,_,_,_,he | .bool,[],_,_,_,_,he | .str,[],_,_,_,_,he | .sl e,[],_,_,_,_,he | .expr,[],_,_,_,_,he=>by simp[dm]at he
 | .int k,d::r,vs,x,r',h,he=>by
  simp only[dm]at he
  split at he
  ·rename_i y hy; cases he; obtain⟨v,u,rfl,h1,X⟩:=h.cons_inv; exact⟨[v],u,rfl,eW h1 hy rfl,X⟩
  ·cases he
 | .bool,d::r,vs,x,r',h,he=>by
  simp only[dm]at he
  split at he
  ·rename_i y hy; cases he; obtain⟨v,u,rfl,h1,X⟩:=h.cons_inv; exact⟨[v],u,rfl,eW h1 hy rfl,X⟩
  ·cases he
 | .str,d::r,vs,x,r',h,he=>by
  simp only[dm]at he
  split at he
  ·rename_i y hy; cases he; obtain⟨v,u,rfl,h1,X⟩:=h.cons_inv; exact⟨[v],u,rfl,eW h1 hy rfl,X⟩
  ·cases he
 | .sl e,d::r,vs,x,r',h,he=>by
  simp only[dm]at he
  split at he
  ·rename_i y hy; cases he; obtain⟨v,u,rfl,h1,X⟩:=h.cons_inv; exact⟨[v],u,rfl,eW h1 hy rfl,X⟩
  ·cases he
 | .nil,ds,vs,x,r,h,he=>by simp only[dm]at he; cases he; exact⟨[],vs,rfl,.nil,h⟩
 | .cons a b,ds,vs,x,r,h,he=>by
  simp only[dm]at he
  split at he
  ·rename_i y r' hy
   split at he
   ·rename_i z r'' hz
    cases he
    obtain⟨c1,c2,rfl,h1,X⟩:=WZ a h hy
    obtain⟨c3,c4,rfl,h3,h4⟩:=WZ b X hz
    exact⟨c1++c3,c4,qw,.cons a b y z c1 c3 h1 h3,h4⟩
   ·cases he
  ·cases he
 | .expr,d::r,vs,x,r',h,he=>by
  simp only[dm]at he
  split at he
  ·cases he
  ·rename_i k hk
   split at he
   ·rename_i d1 d2 d3 d4 d5 r0
    split at he
    ·rename_i a n m s l ha hn hm hs B
     cases he
     obtain⟨v,u,rfl,h0,t0⟩:=h.cons_inv
     obtain⟨v1,u1,rfl,h1,t1⟩:=t0.cons_inv
     obtain⟨v2,u2,rfl,X,t2⟩:=t1.cons_inv
     obtain⟨v3,u3,rfl,h3,t3⟩:=t2.cons_inv
     obtain⟨v4,u4,rfl,h4,t4⟩:=t3.cons_inv
     obtain⟨v5,u5,rfl,h5,t5⟩:=t4.cons_inv
     refine⟨[v]++(([v1]++([v2]++([v3]++[])))++([v4]++([v5]++[]))),u5,qw,.expr _ _ _ _ _ ?_,t5⟩
     exact .cons i64 _ k _ _ _ (eW h0 hk rfl) (.cons Cs _ (a,n,m,()) _ _ _ (.cons .bool _ a _ _ _ (eW h1 ha rfl) (.cons _ _ n _ _ _ (eW X hn rfl) (.cons _ _ m _ _ _ (eW h3 hm rfl) .nil)))
      (.cons .str _ s _ _ _ (eW h4 hs rfl) (.cons _ _ l _ _ _ (eW h5 B rfl) .nil)))
    ·cases he
   ·cases he
theorem mZ{τ:Ty}{d:D}{v:Value}{x:den τ}(h:RD O d v)(U:pA τ d=some x):RD O (.qj τ x) v:=by
 have key:(∀ σ y,d≠.qj σ y)->(bif (d.isAgg==τ.isAgg) && !d.bQ then(match dm τ (xz d)with | some (x,[])=>some x | _=>none)else none)=some x->RD O (.qj τ x) v:=by
  intro hni U
  cases hc:(d.isAgg==τ.isAgg) && !d.bQ with
  | false=>grind
  | true =>
  rw[hc]at U
  simp at hc
  obtain⟨zdw,Bb⟩:=hc
  split at U
  ·rename_i y hy
   cases U
   obtain⟨c1,c2,he,h1,X⟩:=WZ τ (cR h Bb) hy
   have e2:=X.wg
   subst e2
   rw[List.append_nil]at he
   have hv:v=pk τ c1:=by
    rw[<- he]
    cases V:d.isAgg with
    | true =>
     cases d<;>simp[D.isAgg]at V
     cases h with | agg l vs B ho h=>simp[pk,D.isAgg]at zdw ⊢; simp[<- zdw,qA]
    | false =>
     simp only[pk,<- zdw]
     cases h<;>first | rfl | (rw[Gb]; rfl) | (rename_i h _ _; rw[WH (h.one _ (List.mem_singleton.2 rfl))]; rfl) | (rename_i hu; rw[WH hu]; rfl) | (rename_i σ y cs hc; exact absurd rfl (hni σ y)) | (simp at V; done) | (simp at Bb; done)
   rw[hv]
   exact .qj τ _ c1 h1
  ·cases U
 cases d with
 | qj σ y=>obtain⟨rfl,rfl⟩:=wh U; exact h
 | Cm l=>cases U
 | _=>exact key (λ_ _=>nofun) U
end
variable [gy]
def wy(P:Program)(s:Sem Next)(O:KS)(d:Option D)(qm:St):Prop :=
 ∃ (E:KS) (n:Next) (v:Value),s.run P O.w=.ok n E.w/\(n=.value v\/(n=.skip/\v=undef))/\E.st=qm/\Inv E/\Ext O E/\∀ d',d=some d'->RD E d' v
section
variable {c:Ctx} {O:KS}
theorem wy.pure{s:Sem Value}{d:D}{v:Value}(hi:Inv O)(h:s.run c.P O.w=.ok v O.w)(V:RD O d v):wy c.P (do zG (.value (<- s))) O (some d) O.st :=
 ⟨O,.value v,v,by simp[h],.inl rfl,rfl,hi,Ext.refl O,λ_ he=>wa⟩
theorem wy.val{d:Option D}{v:Value}(hi:Inv O)(V:∀ d',d=some d'->RD O d' v):wy c.P (zG (.value v)) O d O.st :=
 ⟨O,.value v,v,rfl,.inl rfl,rfl,hi,Ext.refl O,V⟩
theorem mS{t n:Nat}(h:tU c t=some n):∃ i,c.P.info? t=some i/\i.size=n:=by
 unfold tU at h
 cases hi:c.P.info? t with
 | none=>grind
 | some i=>grind
theorem run_sizeOf{t n:Nat}(h:tU c t=some n)(w:World):(sizeOf t).run c.P w=.ok n w:=by
 obtain⟨i,h1,X⟩:=mS h
 simp[sizeOf,typeInfo,h1,X]
theorem WT{t:Nat}{b:Bool}(h:EU c t=some b)(w:World):(isAgg t).run c.P w=.ok b w:=by
 unfold EU at h
 cases hu:c.P.underlying t with
 | none=>grind
 | some d =>
  simp only[isAgg,I,run_underlying hu]
  cases d<;>simp[hu]at h<;>simp[<- h]
theorem ki{t:Nat}{τ:Ty}(h:cF c t τ=true):tU c t=some τ.size/\EU c t=some τ.isAgg:=by
 unfold cF at h
 simp at h
 obtain⟨⟨_,h1⟩,X⟩:=h
 constructor
 ·split at h1
  ·rename_i n hn; rw[hn,zE h1]
  ·cases h1
 ·grind
theorem Jf{t:Nat}{τ:Ty}(h:cF c t τ=true):zca τ t:=by
 unfold cF at h
 simp at h
 intro e
 subst e
 exact zE h.1.1
omit [gy]in
theorem addr_add(blk o j:Nat):(⟨blk,o,none⟩:Addr).add j=⟨blk,o+j,none⟩:=by unfold Addr.add; split<;>simp_all
theorem tP{t:Nat}{b:Bool}{n blk o:Nat}{cs:List Value}(ha:EU c t=some b)(hn:tU c t=some n)(B:cs.length=n)(h1:b=false->n=1)
  (hc:∀ j v,cs[j]? = some v->O.w.cell? ⟨blk,o+j,none⟩=some v) :
  (loadVar t ⟨blk,o,none⟩).run c.P O.w=.ok (if b then .agg cs.toArray else cs.headD undef) O.w:=by
 simp only[loadVar,I,WT ha]
 cases b with
 | true =>
  simp[if_true,run_sizeOf hn]
  rw[<- B,run_loadCells_list O.w ⟨blk,o,none⟩ cs (λj v hj=>by rw[addr_add]; exact hc j v hj)]
  simp
 | false =>
  have:=h1 rfl
  subst this
  match cs,B with
  | [v],_ =>
   have:=hc 0 v rfl
   simp at this
   simp[this]
theorem z2G{t:Nat}{τ:Ty}{x:den τ}{cs:List Value}{blk o:Nat}(ht:cF c t τ=true)(h:Rc O.w O.ok τ x cs)
  (hc:∀ j v,cs[j]? = some v->O.w.cell? ⟨blk,o+j,none⟩=some v):(loadVar t ⟨blk,o,none⟩).run c.P O.w=.ok (pk τ cs) O.w:=by
 obtain⟨h1,X⟩:=ki ht
 rw[tP (c:=c) X h1 h.len (λe=>KV e) hc]
 rfl
theorem kX{t:T (Option D)}{st qm:St}{d:Option D}:(qu (.val t) st).leads (d,qm)↔t.leads d/\qm=st:=by
 simp only[qu,T.xf,T.leads]
 grind
theorem so{k:St->T (Option D)}{st qm:St}{d:Option D}:(qu (.rd k) st).leads (d,qm)↔(k st).leads d/\qm=st:=by
 simp only[qu,T.xf,T.leads]
 grind
theorem zj{st:St}{r:Option D×St}:¬ (qu bad st).leads r:=by nofun
theorem dR{x:D}{st qm:St}{d:Option D}:(qu (AM.val x) st).leads (d,qm)↔d=some x/\qm=st:=by
 rw[AM.val,kX]; simp only[T.leads]; exact⟨λh=>⟨h.1.symm,h.2⟩,λh=>⟨h.1.symm,h.2⟩⟩
theorem yL{p:Prop}{x:D}{st qm:St}{d:Option D}:(qu (.val (.zl p (.ret (some x)))) st).leads (d,qm)↔p/\d=some x/\qm=st:=by
 rw[kX]; simp only[T.leads]
 grind
theorem GF{x:Option D}{st qm:St}{d:Option D}(h:(qu (zax x) st).leads (d,qm)):∃ y,x=some y/\d=some y/\qm=st:=by
 cases x with
 | none=>exact absurd h zj
 | some y=>rw[zax,kX]at h; exact⟨y,rfl,h.1.symm,h.2⟩
theorem Yw:∀ (τ:Ty) (x:den τ) {cs:List Value},wP O (flat τ x) cs->Rc O.w O.ok τ x cs
 | .int k,x,cs,h=>by obtain⟨v,r,rfl,h1,X⟩:=h.cons_inv; rw[X.wg]; exact h1.jP rfl
 | .bool,x,cs,h=>by obtain⟨v,r,rfl,h1,X⟩:=h.cons_inv; rw[X.wg]; exact h1.jP rfl
 | .str,x,cs,h=>by obtain⟨v,r,rfl,h1,X⟩:=h.cons_inv; rw[X.wg]; exact h1.jP rfl
 | .sl e,x,cs,h=>by obtain⟨v,r,rfl,h1,X⟩:=h.cons_inv; rw[X.wg]; exact h1.jP rfl
 | .nil,x,cs,h=>by rw[h.wg]; exact .nil
 | .cons a b,x,cs,h=>by
  obtain⟨c1,c2,rfl,h1,X⟩:=wP.LG h
  exact .cons a b x.1 x.2 c1 c2 (Yw a x.1 h1) (Yw b x.2 X)
 | .expr,.mk k (a,n,m,()) s l,cs,h=>by
  obtain⟨v,u,rfl,h0,t0⟩:=h.cons_inv
  obtain⟨v1,u1,rfl,h1,t1⟩:=t0.cons_inv
  obtain⟨v2,u2,rfl,X,t2⟩:=t1.cons_inv
  obtain⟨v3,u3,rfl,h3,t3⟩:=t2.cons_inv
  obtain⟨v4,u4,rfl,h4,t4⟩:=t3.cons_inv
  obtain⟨v5,u5,rfl,h5,t5⟩:=t4.cons_inv
  rw[t5.wg]
  exact .expr _ _ _ _ _ (.cons i64 _ k _ _ _ (h0.jP rfl) (.cons Cs _ (a,n,m,()) _ _ _ (.cons .bool _ a _ _ _ (h1.jP rfl) (.cons (.sl u32) (.cons (.sl u32) .nil) n (m,()) [v2] ([v3]++[]) (X.jP rfl) (.cons (.sl u32) .nil m () [v3] [] (h3.jP rfl) .nil)))
      (.cons .str _ s _ _ _ (h4.jP rfl) (.cons (.sl .expr) .nil l () [v5] [] (h5.jP rfl) .nil))))
theorem Sf{t:Nat}{d r:D}{off:Nat}{vs:List Value}(h:Nv c t d off=some r)(V:wP O (xz d) vs)(Qe:∀ x∈xz d,x.one=true) :
  (∃ n,EU c t=some true/\tU c t=some n/\off+n<=vs.length/\RD O r (.agg ((vs.drop off).take n).toArray)) \/
  (∃ v,EU c t=some false/\vs[off]? = some v/\RD O r v):=by
 unfold Nv at h
 split at h
 ·rename_i ha
  split at h
  ·cases h
  ·rename_i n hn
   refine .inl ⟨n,ha,hn,?_⟩
   cases J:(zA off 0&&zA n (xz d).length&&d.zgt)with
   | true =>
    rw[J]at h
    simp at h
    subst h
    simp only[zM]at J
    obtain⟨⟨h1,X⟩,h3⟩:=J
    have e1:off=0:=zE h1
    have e2:n=(xz d).length:=zE X
    subst e1
    have B:=V.1
    rw[e2,B]
    refine⟨Z,?_⟩
    simp
    cases d with
    | qj τ x =>
     have:=RD.qj τ x vs (Yw τ x V)
     simpa[pk,show τ.isAgg=true from h3]using this
    | agg l=>exact .agg l vs B Qe V.2
    | _=>cases h3
   | false =>
    rw[J]at h
    split at h
    ·rename_i l B
     cases h
     unfold CI at B
     cases hle:zJ (off+n) (xz d).length with
     | false=>grind
     | true =>
      rw[hle]at B
      cases B
      have B6:=zK hle
      refine⟨by rw[<- V.1]; exact B6,?_⟩
      have ht:=(V.drop off).take n
      exact .agg _ _ ht.1 (λx U=>Qe x (List.mem_of_mem_drop (List.mem_of_mem_take U))) ht.2
    ·cases h
 ·rename_i ha
  obtain⟨v,h1,X⟩:=V.get h
  grind
 ·cases h
theorem GG{t:Nat}{d r:D}{off blk:Nat}{vs:List Value}(base:Nat)(h:Nv c t d off=some r)(V:wP O (xz d) vs)(Qe:∀ x∈xz d,x.one=true)
  (hc:∀ j v,vs[j]? = some v->O.w.cell? ⟨blk,base+j,none⟩=some v):∃ v,(loadVar t ⟨blk,base+off,none⟩).run c.P O.w=.ok v O.w/\RD O r v:=by
 rcases Sf h V Qe with⟨n,ha,hn,hle,hr⟩ | ⟨v,ha,hv,hr⟩
 ·refine⟨_,?_,hr⟩
  rw[tP (c:=c) (b:=true) (cs:=(vs.drop off).take n) ha hn (wa) nofun]
  ·simp
  ·grind
 ·refine⟨v,?_,hr⟩
  simp only[loadVar,I,WT ha]
  simp[hc off v hv]
theorem WD{blk:Nat}{cs:Array Value}{t:TypeId}{fz:Nat×Nat}(h:O.w.heap[blk]? = some (.cells cs t fz))(o:Nat):O.w.cell? ⟨blk,o,none⟩=cs[o]? := by
 simp[World.cell?,h]
theorem z00{t:Nat}{x:Option D}{v:Value}{d:Option D}{qm:St}(hi:Inv O)(U:∀ y,x=some y->RD O y v)(h:(qu (VK c t x) O.st).leads (d,qm)) :
  wy c.P (do zG (.value (<- zW t v))) O d qm:=by
 unfold VK at h
 split at h
 ·rename_i τ y
  cases ht:cF c t τ with
  | false=>rw[ht]at h; exact absurd h zj
  | true =>
   rw[ht,cond_true,dR]at h
   obtain⟨rfl,rfl⟩:=h
   cases U _ rfl with
   | vC _ _ cs blk off ja hr hc =>
    exact wy.pure hi (by simp[zW,zQ,z2G ht hr hc]) (.qj τ y cs hr)
 ·rename_i b off
  rw[so]at h
  obtain⟨h,rfl⟩:=h
  split at h
  ·rename_i d0 J
   cases Yj:d0.Gv with
   | true=>rw[Yj]at h; exact h.elim
   | false =>
   rw[Yj,cond_false]at h
   split at h
   ·rename_i r hr
    cases h
    cases U _ rfl with
    | ptr _ _ blk n d1 V hp =>
     obtain⟨rF,n',cs,T,g1,g2,g3,g4,g5⟩:=(hi.blk b _ J:y7 O b d0).cells Yj
     rw[hp]at g1
     cases g1
     obtain⟨v,h1,X⟩:=GG (c:=c) (blk:=blk) 0 hr g4 g5.1 (λj v hj=>by rw[WD g2]; simpa using hj)
     rw[Nat.zero_add]at h1
     exact wy.pure hi (by simp[zW,zQ,h1]) X
   ·exact h.elim
  ·exact h.elim
 ·rename_i b vn e idx off
  rw[so]at h
  obtain⟨h,rfl⟩:=h
  split at h
  ·rename_i ef e' xs J
   cases he:decide (e'=e)with
   | false=>rw[he]at h; exact h.elim
   | true =>
    rw[he,cond_true]at h
    have Mv:e'=e:=uC he
    subst Mv
    obtain⟨⟨rfl,wO⟩,h⟩:=h
    split at h
    ·rename_i r hr
     cases h
     cases U _ rfl with
     | gU _ _ _ _ _ blk o hold hp =>
      obtain⟨n,p1,rfl⟩:=hp xs J wO
      obtain⟨cm,⟨Gp,_⟩ | ⟨rF,n',cs,T,g1,g2,g3,g4,gr,f,g5⟩⟩:=hi.blk b _ J
      ·grind
      ·rw[p1]at g1
       cases g1
       have hg:xs.getD idx (zb e')=xs[idx]:=by simp[zR,zP wO]
       rw[hg]at hr
       obtain⟨k1,k2⟩:=g5 idx wO
       obtain⟨v,h1,X⟩:=GG (c:=c) (blk:=blk) (idx*e'.size) hr (XC k1) (se _ _) (λj v hj=>by rw[WD g2]; exact k2 j v hj)
       exact wy.pure hi (by simp[zW,zQ,h1]) X
    ·exact h.elim
  ·exact h.elim
 ·exact absurd h zj
end
section
variable {c:Ctx} {O:KS}
theorem Dm{s f o n:Nat}(h:Yv c s f=some (o,n)):∃ fs fd,c.P.underlying s=some (.struct fs)/\fs[f]? = some fd/\tU c fd.type=some n/\n≠0/\fd.offset=o:=by
 unfold Yv at h
 split at h
 ·rename_i fs hu
  split at h
  ·rename_i fd hf
   split at h
   ·rename_i m hm
    cases J:zA m 0 with
    | true=>grind
    | false =>
     rw[J]at h
     cases h
     refine⟨fs,fd,hu,hf,hm,?_,rfl⟩
     intro e
     subst e
     cases J
   ·cases h
  ·cases h
 ·cases h
theorem W5{s f o n blk p:Nat}(h:Yv c s f=some (o,n))(w:World) :
  (qB s (.pointer (some ⟨blk,p,none⟩)) f).run c.P w=.ok (.pointer (some ⟨blk,p+o,none⟩)) w:=by
 obtain⟨fs,fd,h1,X,h3,h4,h5⟩:=Dm h
 simp[qB,run_underlying h1,X,zQ,fieldPlace,run_sizeOf h3,h4,addr_add]
theorem Gk:∀ (τ:Ty) (x:den τ) (n:Nat) {d:D} {o s:Nat} {cs:List Value},XD τ x n=some (d,o,s)->Rc O.w O.ok τ x cs ->
  ∃ (σ:Ty) (y:den σ) (c2:List Value),d=.vC σ y/\Rc O.w O.ok σ y c2/\s=σ.size/\∀ j v,c2[j]? = some v->cs[o+j]? = some v
 | .cons a b,x,0,d,o,s,cs,h,hr=>by
  simp only[XD]at h
  cases h
  obtain⟨c1,c2,rfl,h1,X⟩:=hr.cons_inv
  grind
 | .cons a b,x,n+1,d,o,s,cs,h,hr=>by
  simp only[XD]at h
  split at h
  ·rename_i d' o' s' h'
   cases h
   obtain⟨c1,c2,rfl,h1,X⟩:=hr.cons_inv
   obtain⟨σ,y,c3,e1,e2,e3,e4⟩:=Gk b x.2 n h' X
   refine⟨σ,y,c3,e1,e2,e3,λj v hj => ?_⟩
   have:=h1.len
   grind
  ·cases h
 | .expr,.mk k (a,n,m,()) s l,i,d,o,z,cs,h,hr=>by
  obtain⟨c1,r1,rfl,h1,t1⟩:=hr.Fx.cons_inv
  obtain⟨c2,r2,rfl,X,t2⟩:=t1.cons_inv
  obtain⟨c3,r3,rfl,h3,t3⟩:=t2.cons_inv
  obtain⟨c4,r4,rfl,h4,t4⟩:=t3.cons_inv
  have e4:=t4.wg
  subst e4
  have l2:c2.length=3:=X.len
  obtain⟨v1,rfl⟩:=h1.single rfl
  obtain⟨v3,rfl⟩:=h3.single rfl
  obtain⟨v4,rfl⟩:=h4.single rfl
  match i,h with
  | 0,h=>simp only[XD]at h; cases h; exact⟨i64,_,_,rfl,h1,rfl,λj v hj=>by match j,hj with | 0,hj=>simpa using hj⟩
  | 1,h => 
   simp only[XD]at h; cases h
   refine⟨Cs,_,_,rfl,X,rfl,λj v hj => ?_⟩
   grind
  | 2,h =>
   simp only[XD]at h; cases h
   refine⟨.str,_,_,rfl,h3,rfl,λj v hj => ?_⟩
   grind
  | 3,h =>
   simp only[XD]at h; cases h
   refine⟨.sl .expr,_,_,rfl,h4,rfl,λj v hj => ?_⟩
   match j,hj with
   | 0,hj =>
    simp only[List.cons_append,List.nil_append,Nat.add_zero,List.getElem?_cons_succ]
    rw[List.getElem?_append_right (Z),l2]; simpa using hj
  | n+4,h=>simp[XD]at h
 | .int _,_,_,_,_,_,_,h,_ | .bool,_,_,_,_,_,_,h,_ | .str,_,_,_,_,_,_,h,_ | .sl _,_,_,_,_,_,_,h,_ | .nil,_,_,_,_,_,_,h,_=>by simp[XD]at h
theorem Gi{s f:Nat}{x:Option D}{v:Value}{d:Option D}{qm:St}(hi:Inv O)(U:∀ y,x=some y->RD O y v)(h:(qu (XB c s f x) O.st).leads (d,qm)) :
  wy c.P (do zG (.value (<- qB s v f))) O d qm:=by
 unfold XB at h
 split at h
 ·exact absurd h zj
 ·rename_i o n hf
  split at h
  ·rename_i τ y
   split at h
   ·rename_i d' o' n' KE
    cases J:zA o o'&&zA n n' with
    | false=>rw[J]at h; exact absurd h zj
    | true =>
     rw[J,cond_true,dR]at h
     obtain⟨rfl,rfl⟩:=h
     simp only[zM]at J
     have e1:o=o':=zE J.1
     subst e1
     cases U _ rfl with
     | vC _ _ cs blk off ja hr hc =>
      obtain⟨σ,z,c2,rfl,g1,g2,g3⟩:=Gk τ y f KE hr
      exact wy.pure hi (W5 hf O.w) (.vC σ z c2 blk (off+o) ja g1 λj u hj=>wa)
   ·exact absurd h zj
  ·rename_i b off
   obtain⟨rfl,rfl⟩:=h
   cases U _ rfl with
   | ptr _ _ blk n d V hp=>exact wy.pure hi (W5 hf O.w) (.ptr b (off+o) blk n d V hp)
  ·rename_i b vn e idx off
   obtain⟨rfl,rfl⟩:=h
   cases U _ rfl with
   | gU _ _ _ _ _ blk p hold hp =>
    refine wy.pure hi (W5 hf O.w) (.gU b vn e idx (off+o) blk (p+o) hold λxs h1 X => ?_)
    grind
  ·exact absurd h zj
theorem Mg{s f:Nat}{x:Option D}{v:Value}{d:Option D}{qm:St}(hi:Inv O)(U:∀ y,x=some y->RD O y v)(h:(qu (Dn c s f x) O.st).leads (d,qm)) :
  wy c.P (do zG (.value (<- qD s v f))) O d qm:=by
 unfold Dn at h
 split at h
 ·rename_i fs hu
  split at h
  ·rename_i fd hf
   split at h
   ·rename_i y
    obtain⟨r,hr,rfl,rfl⟩:=GF h
    cases hag:y.db with
    | false=>grind
    | true =>
    rw[hag,cond_true]at hr
    have hy:=U _ rfl
    have ⟨vs,hv,hvs⟩:∃ vs,v=.agg vs/\wP O (xz y) vs.toList:=by
     have hfd:=cR hy (by cases y<;>simp[D.db,D.bQ]at hag ⊢)
     cases hy<;>simp[D.db]at hag
     ·rename_i τ z cs hc
      exact⟨cs.toArray,by simp[pk,hag],by simpa[pk,hag,qA]using hfd⟩
     ·rename_i l vs B ho hh
      exact⟨vs.toArray,rfl,by simpa[qA]using hfd⟩
    subst hv
    rcases Sf hr hvs (cQ hy)with⟨n,ha,hn,hle,hrd⟩ | ⟨u,ha,TA,hrd⟩
    ·refine wy.pure hi ?_ hrd
     simp only[qD,I,run_underlying hu,Y,hf,asAgg,zN,part,WT ha,if_true,run_sizeOf hn]
     congr 2
     grind
    ·refine wy.pure hi ?_ hrd
     have:vs[fd.offset]? = some u:=by simpa using TA
     simp[qD,run_underlying hu,hf,asAgg,part,WT ha,this]
   ·exact absurd h zj
  ·exact absurd h zj
 ·exact absurd h zj
theorem yW{t e:Nat}(h:nI c t=some e):c.P.underlying t=some (.slice e):=by
 unfold nI at h
 grind
theorem kF{x:Option D}{k:IntKind}{n:Int}{v:Value}(h:asInt x=some (k,n))(U:∀ y,x=some y->RD O y v):v=.int k n:=by
 unfold asInt at h
 split at h
 ·cases h; exact(U _ rfl).eB
 ·cases h
theorem Xh{x:Option D}{s:zn}{v:Value}(h:G1 x=some s)(U:∀ y,x=some y->RD O y v):v=.string ⟨s.toArray⟩:=by
 unfold G1 at h
 split at h
 ·cases h; exact(U _ rfl).jq
 ·cases h
theorem Zd{x:Option D}{b:Bool}{v:Value}(h:asBool x=some b)(U:∀ y,x=some y->RD O y v):v=.bool b:=by
 unfold asBool at h
 split at h
 ·cases h; exact(U _ rfl).cK
 ·cases h
theorem getD_lt{α:Type}{l:List α}{i:Nat}(h:i<l.length)(d:α):zR l i d=l[i]:=wa
theorem Xk{a:Ty}(x:den a):(jX x:Option (den a))=some x:=by simp[jX]
theorem F4{w:World}{ok:Nat->Prop}:∀ (τ:Ty) (e:Ty) (n:Nat) (x:den τ) (cs:List Value) (i:Nat),F5 τ=some (e,n)->Rc w ok τ x cs->i<n ->
  ∃ c,Rc w ok e (Vc e τ x i) c/\∀ j v,c[j]? = some v->cs[i*e.size+j]? = some v
 | .cons a b,e,n,x,cs,i,ht,hr,hi=>by
  obtain⟨c1,c2,rfl,h1,X⟩:=hr.cons_inv
  have key:∀ m,(b=.nil/\m=0\/F5 b=some (a,m))->i<m+1->∃ c,Rc w ok a (Vc a (.cons a b) x i) c/\∀ j v,c[j]? = some v->(c1++c2)[i*a.size+j]? = some v:=by
   intro m hm hi
   cases i with
   | zero =>
    refine⟨c1,by simp only[Vc,Xk]; exact h1,λj v hj => ?_⟩
    grind
   | succ i =>
    rcases hm with⟨rfl,rfl⟩ | hm
    ·omega
    ·obtain⟨c,g1,g2⟩:=F4 b a m x.2 c2 i hm X (Z)
     refine⟨c,g1,λj v hj => ?_⟩
     have B:=h1.len
     grind
  unfold F5 at ht
  split at ht
  ·cases ht; exact key 0 (.inl ⟨rfl,rfl⟩) (Z)
  ·grind
 | .int _,_,_,_,_,_,ht,_,_=>by cases ht
 | .bool,_,_,_,_,_,ht,_,_=>by cases ht
 | .str,_,_,_,_,_,ht,_,_=>by cases ht
 | .sl _,_,_,_,_,_,ht,_,_=>by cases ht
 | .nil,_,_,_,_,_,ht,_,_=>by cases ht
 | .expr,_,_,_,_,_,ht,_,_=>by cases ht
theorem SY{t n e:Nat}(h:zcU c t=some (n,e)):c.P.underlying t=some (.array n e):=by
 unfold zcU at h
 grind
theorem Bc{t:Nat}{x i:Option D}{k:IntKind}{n:Int}{v u:Value}{d:Option D}{qm:St}(hi:Inv O)(U:∀ y,x=some y->RD O y v)(hy:∀ y,i=some y->RD O y u)(K3:asInt i=some (k,n))
  (h:(qu (Gt c t x n) O.st).leads (d,qm)):wy c.P (do zG (.value (<- zO t v u))) O d qm:=by
 have TA:=kF K3 hy
 subst TA
 unfold Gt at h
 split at h
 ·rename_i m et τ y ha
  have hu:=SY ha
  split at h
  ·rename_i e m' Ou
   cases ht:cF c et e&&zA m m' with
   | false=>rw[ht]at h; exact absurd h zj
   | true =>
    rw[ht,cond_true,yL]at h
    simp only[zM]at ht
    have:=zE ht.2
    subst this
    obtain⟨⟨h0,h1⟩,rfl,rfl⟩:=h
    obtain⟨hs,_⟩:=ki ht.1
    cases U _ rfl with
    | vC _ _ cs blk off ja EI hc =>
     obtain⟨cc,g1,g2⟩:=F4 τ e m y cs n.toNat Ou EI (Z)
     refine wy.pure hi ?_ (.vC e _ cc blk (off+n.toNat*e.size) ja g1 λj v hj=>wa)
     simp[zO,asIntOf,run_underlying hu,h0,h1,run_sizeOf hs,addr_add,zQ]
  ·exact absurd h zj
 ·exact absurd h zj
theorem Gs{t:Nat}{x i:Option D}{v u:Value}{d:Option D}{qm:St}(hi:Inv O)(U:∀ y,x=some y->RD O y v)(hy:∀ y,i=some y->RD O y u)
  (h:(qu (XF c t x i) O.st).leads (d,qm)):wy c.P (do zG (.value (<- zO t v u))) O d qm:=by
 unfold XF at h
 split at h
 ·rename_i k n het K3
  exact Bc hi U hy K3 h
 ·rename_i et k n het K3
  have hu:=yW het
  have TA:=kF K3 hy
  subst TA
  split at h
  ·rename_i e l
   cases ht:cF c et e with
   | false=>rw[ht]at h; exact absurd h zj
   | true =>
    rw[ht,cond_true,yL]at h
    obtain⟨⟨h0,h1⟩,rfl,rfl⟩:=h
    obtain⟨hs,_⟩:=ki ht
    have wO:n.toNat<R l:=Z
    rcases((U _ rfl).jP rfl).Z5 with⟨rfl,_⟩ | ⟨blk,off,cap,f,he,ja,ju,hh,hc⟩
    ·cases wO
    ·cases he
     rw[getD_lt wO]
     refine wy.pure hi ?_ (.vC e _ (f n.toNat) blk (off+n.toNat*e.size) ja (hh _ wO) λj v hj=>hc _ wO j v hj)
     simp[zO,asIntOf,run_underlying hu,h0,h1,run_sizeOf hs,addr_add]
  ·rename_i e l ne
   cases ht:cF c et e with
   | false=>rw[ht]at h; exact absurd h zj
   | true =>
    rw[ht,cond_true,yL]at h
    obtain⟨⟨h0,h1⟩,rfl,rfl⟩:=h
    obtain⟨hs,_⟩:=ki ht
    have wO:n.toNat<R l:=Z
    cases U _ rfl with
    | vB=>cases wO
    | tight _ _ _ blk off f ku ja hh hc =>
     rw[getD_lt wO]
     refine wy.pure hi ?_ (.vC e _ (f n.toNat) blk (off+n.toNat*e.size) ja (hh _ wO) λj v hj=>hc _ wO j v hj)
     simp[zO,asIntOf,run_underlying hu,h0,h1,run_sizeOf hs,addr_add]
  ·rename_i b vn e off len
   cases ht:cF c et e with
   | false=>rw[ht]at h; exact absurd h zj
   | true =>
    rw[ht,cond_true,yL]at h
    obtain⟨⟨h0,h1⟩,rfl,rfl⟩:=h
    obtain⟨hs,_⟩:=ki ht
    cases U _ rfl with
    | ms _ _ _ _ _ cap a hold ju ha V7 hm =>
     cases a with
     | none=>grind
     | some p =>
      have hp:=V7 p rfl
      obtain⟨blk,o,sp⟩:=p
      subst hp
      refine wy.pure hi (v:=.pointer (some ⟨blk,o+n.toNat*e.size,none⟩)) ?_ (.gU b vn e (off+n.toNat) 0 blk _ hold λxs J wO => ?_)
      ·simp[zO,asIntOf,run_underlying hu,h0,h1,run_sizeOf hs,addr_add]
      ·obtain⟨hle,⟨_,_,hv,_⟩ | ⟨rF,n',o',Ut,h3,h4,h5,h6,h7⟩⟩:=hm xs J
       ·cases hv
       ·grind
  ·exact absurd h zj
 ·exact absurd h zj
theorem T1(s:zn){i:Nat}(h:i<s.length):(⟨s.toArray⟩:ByteArray)[i]? = some s[i]:=by
 have cm:(⟨s.toArray⟩:ByteArray).size=s.length:=rfl
 rw[getElem?_pos _ _ (wa)]
 rfl
theorem ME{t:Nat}{x i:Option D}{v u:Value}{d:Option D}{qm:St}(hi:Inv O)(U:∀ y,x=some y->RD O y v)(hy:∀ y,i=some y->RD O y u)
  (h:(qu (DG c t x i) O.st).leads (d,qm)):wy c.P (do zG (.value (<- Instr.index t v u))) O d qm:=by
 unfold DG at h
 split at h
 ·rename_i k n s K3 hs hu
  have TA:=kF K3 hy
  subst TA
  have hv:=Xh hs U
  subst hv
  obtain⟨⟨h0,h1⟩,rfl,rfl⟩:=h
  have wO:n.toNat<s.length:=Z
  rw[getD_lt wO]
  exact wy.pure hi (by simp[Instr.index,asIntOf,run_underlying hu,h0,T1 s wO]) RD.int
 ·exact absurd h zj
def Ks(O:KS):Option (Option D)->Option Value->Prop
 | none,none=>True
 | some x,some v=>∀ y,x=some y->RD O y v
 | _,_=>False
theorem G7{d n:Int}{x:Option (Option D)}{v:Option Value}(h:SZ d x=some n)(U:Ks O x v):(x=none/\v=none/\n=d)\/(x.isSome/\∃ k,v=some (.int k n)):=by
 cases x with
 | none=>cases v with
  | none=>exact .inl ⟨rfl,rfl,by simpa[SZ]using h.symm⟩
  | some v=>exact U.elim
 | some x=>cases v with
  | none=>exact U.elim
  | some v =>
   simp only[SZ]at h
   split at h
   ·rename_i k i hk; cases h; exact .inr ⟨rfl,k,by rw[kF hk U]⟩
   ·cases h
end
section
variable {c:Ctx} {O:KS}
theorem dX{P:Program}{isS:Bool}{len cap:Nat}{lo hi mx:Option Value}{l h:Int}{m:Nat}
  (B:(lo=none/\l=0)\/∃ k,lo=some (.int k l)) (hh:(hi=none/\mx=none/\h=len)\/∃ k,hi=some (.int k h))
  (hm:(mx=none/\m=cap)\/∃ k,mx=some (.int k m)) (h0:0<=l) (h1:l<=h) (X:h<=m) (h3:m<=cap) (w:World) :
  (zU isS len cap lo hi mx).run P w=.ok (l.toNat,h.toNat,m) w:=by
 have hh0:(0:Int)<=h:=Z
 have HL:l<=(h.toNat:Int):=Z
 rcases B with⟨rfl,rfl⟩ | ⟨k1,rfl⟩<;>rcases hm with⟨rfl,rfl⟩ | ⟨k3,rfl⟩<;>rcases hh with⟨rfl,U,rfl⟩ | ⟨k2,rfl⟩ <;>
  first
   | (cases U; done)
   | (simp[zU,run_sliceBound, *]; done)
   | (simp[zU,run_sliceBound, *]; rw[run_sliceBound _ _ _ _ _ h0 HL]; rfl)
theorem IX(s:zn)(l h:Int):(⟨s.toArray⟩:ByteArray).extract l.toNat h.toNat=⟨(iv l h s).toArray⟩:=by
 apply ByteArray.ext
 simp[iv,List.drop_take]
theorem G6{n:Int}{x:Option (Option D)}{v:Option Value}(h:SZ 0 x=some n)(U:Ks O x v):(v=none/\n=0)\/∃ k,v=some (.int k n):=by
 rcases G7 h U with⟨_,h1,X⟩ | ⟨_,h1⟩
 ·grind
 ·grind
theorem D3{d n:Int}{x:Option (Option D)}{v:Option Value}(h:SZ d x=some n)(U:Ks O x v):(v=none/\n=d)\/∃ k,v=some (.int k n):=by
 rcases G7 h U with⟨_,h1,X⟩ | ⟨_,h1⟩
 ·grind
 ·grind
theorem Jh{v:Option Value}(h:Ks O none v):v=none:=by cases v with | none=>rfl | some _=>exact h.elim
theorem Wo{e:Ty}{l:List (den e)}{lo hi:Int}(h0:0<=lo)(h1:lo<=hi)(X:hi<=(l.length:Int)) :
  (je lo hi l).length=hi.toNat-lo.toNat/\∀ i (YA:i<(je lo hi l).length),∃ h:lo.toNat+i<l.length,(je lo hi l)[i]=l[lo.toNat+i]:=by
 have hlen:(je lo hi l).length=hi.toNat-lo.toNat:=by simp[je]; omega
 refine⟨hlen,λi YA=>⟨Z,?_⟩⟩
 simp[je]
theorem Nk{e:Ty}{l:List (den e)}{lo hi:Int}{blk off cap m:Nat}{f:Nat->List Value}(ja:O.ok blk)
  (hh:∀ i (hi:i<l.length),Rc O.w O.ok e l[i] (f i)) (hc:∀ i,i<l.length->∀ j v,(f i)[j]? = some v->O.w.cell? ⟨blk,off+i*e.size+j,none⟩=some v)
  (h0:0<=lo) (h1:lo<=hi) (X:hi<=(l.length:Int)) (hm:hi<=(m:Int)) (ju:m<=cap) :
  (∀ i (YA:i<(je lo hi l).length),Rc O.w O.ok e (je lo hi l)[i] (f (lo.toNat+i))) /\
  (∀ i,i<(je lo hi l).length->∀ j v,(f (lo.toNat+i))[j]? = some v ->
   O.w.cell? ⟨blk,(if m=lo.toNat then off else off+lo.toNat*e.size)+i*e.size+j,none⟩=some v)/\(je lo hi l).length<=m-lo.toNat:=by
 obtain⟨B,hg⟩:=Wo h0 h1 X
 refine⟨λi YA => ?_,λi YA j v hj => ?_,Z⟩
 ·obtain⟨h3,h4⟩:=hg i YA
  rw[h4]; exact hh _ h3
 ·obtain⟨h3,h4⟩:=hg i YA
  have:=hc _ h3 j v hj
  rw[if_neg (Z)]
  rw[Nat.add_mul,<- Nat.add_assoc]at this
  exact this
theorem Nl{t:Nat}{x:Option D}{lo hi mx:Option (Option D)}{v:Value}{vl vh vm:Option Value}{d:Option D}{qm:St}(hI:Inv O)(U:∀ y,x=some y->RD O y v)
  (hlo:Ks O lo vl) (hhi:Ks O hi vh) (hmx:Ks O mx vm)
  (h:(qu (Ee c t x lo hi mx) O.st).leads (d,qm)):wy c.P (do zG (.value (<- zH t v vl vh vm))) O d qm:=by
 unfold Ee at h
 split at h
 ·rename_i s
  obtain⟨s,rfl⟩:∃ s':zn,s=s':=⟨s,rfl⟩
  split at h
  ·rename_i l hh hu B hh'
   rw[yL]at h
   obtain⟨⟨h0,h1,X⟩,rfl,rfl⟩:=h
   have hv:=(U _ rfl).jq
   subst hv
   have e1:=Jh hmx
   subst e1
   refine wy.pure hI ?_ RD.str
   have cm:(⟨s.toArray⟩:ByteArray).size=s.length:=rfl
   have J:=dX (P:=c.P) (isS:=false) (len:=s.length) (cap:=s.length) (mx:=none) (m:=s.length) (G6 B hlo)
    (sC (D3 hh' hhi) (λh=>⟨h.1,rfl,h.2⟩) id) (.inl ⟨rfl,rfl⟩) h0 h1 X (zF _) O.w
   simp only[zH,I,run_underlying hu,Y,zL,Option.isSome_none,Bool.false_eq_true,if_false,cm,J,IX]
   rfl
  ·exact absurd h zj
 ·rename_i e s
  split at h
  ·rename_i et l hh het B hh'
   have hu:=yW het
   cases ht:cF c et e with
   | false=>rw[ht]at h; exact absurd h zj
   | true =>
    obtain⟨hs,_⟩:=ki ht
    rw[ht,cond_true]at h
    split at h
    ·rw[yL]at h
     obtain⟨⟨h0,h1,X⟩,rfl,rfl⟩:=h
     have e1:=Jh hmx
     subst e1
     have B7:=G6 B hlo
     have B5:(vh=none/\(none:Option Value)=none/\hh=(s.length:Int))\/∃ k,vh=some (.int k hh):=sC (D3 hh' hhi) (λh=>⟨h.1,rfl,h.2⟩) id
     rcases((U _ rfl).jP rfl).Z5 with⟨rfl,a0,he⟩ | ⟨blk,off,cap,f,he,ja,ju,To,hc2⟩
     ·cases he
      simp only[zY,zT]at X
      have J:=dX (P:=c.P) (isS:=true) (len:=0) (cap:=0) (mx:=none) (m:=0) B7 B5 (.inl ⟨rfl,rfl⟩) h0 h1 X (zF _) O.w
      have e0:l=0:=Z
      have e2:hh=0:=Z
      subst e0 e2
      refine wy.pure hI (v:=.slice a0 0 0) ?_ (.Zr rfl (.mf e a0))
      simp[zH,run_underlying hu,zL,J,run_sizeOf hs]
     ·cases he
      obtain⟨k1,k2,k3⟩:=Nk (lo:=l) (hi:=hh) (cap:=cap) (m:=cap) ja To hc2 h0 h1 X (Z) (zF _)
      have J:=dX (P:=c.P) (isS:=true) (len:=s.length) (cap:=cap) (mx:=none) (m:=cap) B7 B5 (.inl ⟨rfl,rfl⟩) h0 h1 (Z) (zF _) O.w
      have hlen:=(Wo h0 h1 X).1
      refine wy.pure hI ?_ (.Zr rfl (.sl e (je l hh s) blk _ (cap-l.toNat) _ ja k3 k1 k2))
      simp only[zH,I,run_underlying hu,Y,zL,J,run_sizeOf hs,zN,hlen]
      congr 3
      split<;>simp[addr_add]
    ·split at h
     ·rename_i mx m km mi hm'
      cases hhs:hi.isSome with
      | false=>rw[hhs]at h; exact absurd h zj
      | true =>
      rw[hhs,cond_true,yL]at h
      obtain⟨⟨h0,h1,rfl,X⟩,rfl,rfl⟩:=h
      obtain⟨vm,rfl⟩:∃ u,vm=some u:=by cases vm with | none=>exact hmx.elim | some u=>exact⟨u,rfl⟩
      have hvm:=kF hm' hmx
      subst hvm
      have B7:=G6 B hlo
      have B5:(vh=none/\(some (Value.int km hh):Option Value)=none/\hh=(s.length:Int))\/∃ k,vh=some (.int k hh):=by
       rcases G7 hh' hhi with⟨g1,_⟩ | ⟨_,g⟩
       ·rw[g1]at hhs; cases hhs
       ·exact .inr g
      have em:((hh.toNat:Nat):Int)=hh:=Z
      rcases((U _ rfl).jP rfl).Z5 with⟨rfl,a0,he⟩ | ⟨blk,off,cap,f,he,ja,ju,To,hc2⟩
      ·cases he
       simp only[zY,zT]at X
       have J:=dX (P:=c.P) (isS:=true) (len:=0) (cap:=0) (mx:=some (.int km hh)) (m:=hh.toNat) B7 B5 (.inr ⟨km,by rw[em]⟩) h0 h1 (Z) (Z) O.w
       have e0:l=0:=Z
       have e2:hh=0:=Z
       subst e0 e2
       refine wy.pure hI (v:=.slice a0 0 0) ?_ (.vB e a0)
       simp[zH,run_underlying hu,zL,J,run_sizeOf hs]
      ·cases he
       obtain⟨k1,k2,k3⟩:=Nk (lo:=l) (hi:=hh) (cap:=cap) (m:=hh.toNat) ja To hc2 h0 h1 X (Z) (Z)
       have J:=dX (P:=c.P) (isS:=true) (len:=s.length) (cap:=cap) (mx:=some (.int km hh)) (m:=hh.toNat) B7 B5 (.inr ⟨km,by rw[em]⟩) h0 h1 (Z) (Z) O.w
       have hlen:=(Wo h0 h1 X).1
       refine wy.pure hI ?_ (.tight e (je l hh s) false blk _ _ nofun ja k1 k2)
       simp only[zH,I,run_underlying hu,Y,zL,J,run_sizeOf hs,zN,hlen]
       congr 3
       split<;>simp[addr_add]
     ·exact absurd h zj
  ·exact absurd h zj
 ·rename_i e s ne
  split at h
  ·rename_i et l hh het B hh'
   have hu:=yW het
   cases ht:cF c et e with
   | false=>rw[ht]at h; exact absurd h zj
   | true =>
    obtain⟨hs,_⟩:=ki ht
    rw[ht,cond_true,yL]at h
    obtain⟨⟨h0,h1,X⟩,rfl,rfl⟩:=h
    have e1:=Jh hmx
    subst e1
    have B7:=G6 B hlo
    have B5:(vh=none/\(none:Option Value)=none/\hh=(s.length:Int))\/∃ k,vh=some (.int k hh):=sC (D3 hh' hhi) (λh=>⟨h.1,rfl,h.2⟩) id
    cases U _ rfl with
    | vB _ a0 =>
     simp only[zY,zT]at X
     have J:=dX (P:=c.P) (isS:=true) (len:=0) (cap:=0) (mx:=none) (m:=0) B7 B5 (.inl ⟨rfl,rfl⟩) h0 h1 X (zF _) O.w
     have e0:l=0:=Z
     have e2:hh=0:=Z
     subst e0 e2
     refine wy.pure hI (v:=.slice a0 0 0) ?_ (.Zr rfl (.mf e a0))
     simp[zH,run_underlying hu,zL,J,run_sizeOf hs]
    | tight _ _ _ blk off f ku ja To hc2 =>
     obtain⟨k1,k2,k3⟩:=Nk (lo:=l) (hi:=hh) (cap:=s.length) (m:=s.length) ja To hc2 h0 h1 X (Z) (zF _)
     have J:=dX (P:=c.P) (isS:=true) (len:=s.length) (cap:=s.length) (mx:=none) (m:=s.length) B7 B5 (.inl ⟨rfl,rfl⟩) h0 h1 (Z) (zF _) O.w
     have hlen:=(Wo h0 h1 X).1
     refine wy.pure hI ?_ (.Zr rfl (.sl e (je l hh s) blk _ (s.length-l.toNat) _ ja k3 k1 k2))
     simp only[zH,I,run_underlying hu,Y,zL,J,run_sizeOf hs,zN,hlen]
     congr 3
     split<;>simp[addr_add]
  ·exact absurd h zj
 ·rename_i b vn e off len
  split at h
  ·rename_i et l hh het B hh'
   have hu:=yW het
   cases ht:cF c et e with
   | false=>rw[ht]at h; exact absurd h zj
   | true =>
    obtain⟨hs,_⟩:=ki ht
    rw[ht,cond_true,yL]at h
    obtain⟨⟨h0,h1,X⟩,rfl,rfl⟩:=h
    have e1:=Jh hmx
    subst e1
    have B7:=G6 B hlo
    have B5:(vh=none/\(none:Option Value)=none/\hh=(len:Int))\/∃ k,vh=some (.int k hh):=sC (D3 hh' hhi) (λh=>⟨h.1,rfl,h.2⟩) id
    cases U _ rfl with
    | ms _ _ _ _ _ cap a hold ju ha V7 hm =>
     have J:=dX (P:=c.P) (isS:=true) (len:=len) (cap:=cap) (mx:=none) (m:=cap) B7 B5 (.inl ⟨rfl,rfl⟩) h0 h1 (Z) (zF _) O.w
     refine wy.pure hI (v:=.slice (if cap=l.toNat then a else a.map (·.add (l.toNat*e.size))) (hh.toNat-l.toNat) (cap-l.toNat)) ?_ (.ms b vn e _ _ _ _ hold (Z) ?_ ?_ ?_)
     ·simp only[zH,I,run_underlying hu,Y,zL,J,run_sizeOf hs,zN]
     ·intro hn
      split at hn
      ·have:=ha hn; omega
      ·cases a with | none=>have:=ha rfl; omega | some p=>cases hn
     ·intro p hp
      split at hp
      ·exact V7 p hp
      ·cases a with
       | none=>cases hp
       | some q =>
        obtain⟨q1,q2,q3⟩:=q
        have:=V7 _ rfl
        simp only at this
        subst this
        simp only[Option.map_some,addr_add,Option.some.injEq]at hp
        subst hp; rfl
     ·intro xs Gr
      obtain⟨hle,⟨rfl,rfl,hv,hp⟩ | ⟨rF,n',o',Ut,h3,h4,h5,h6,h7⟩⟩:=hm xs Gr
      ·cases hv
       have e0:l=0:=Z
       have e2:hh=0:=Z
       subst e0 e2
       exact⟨qw,.inl ⟨rfl,rfl,rfl,hp⟩⟩
      ·cases h4
       refine⟨Z,.inr ?_⟩
       by_cases Yz:cap=l.toNat
       ·refine⟨rF,n',o',0,h3,?_,Z,?_,.inl rfl⟩
        ·simp[Yz]
        ·have:(off+l.toNat+0)=off+cap:=Z
         rw[this]; exact h6
       ·refine⟨rF,n',o'+l.toNat*e.size,cap-l.toNat,h3,?_,Z,?_,.inr ?_⟩
        ·simp[Yz,addr_add]
        ·have:off+l.toNat+(cap-l.toNat)=off+cap:=Z
         rw[this]; exact h6
        ·rcases h7 with h7 | h7
         ·omega
         ·rw[h7,Nat.add_mul]
  ·exact absurd h zj
 ·exact absurd h zj
end
section
variable {c:Ctx} {O:KS}
theorem Xz(op:BinOp)(t:Nat)(x y:Operand)(k k':IntKind)(a b:Int)(P:Program)(w:World):(eqGuard op t x y (.int k a) (.int k' b)).run P w=.ok () w:=by
 unfold eqGuard; split<;>simp
theorem Fu(op:BinOp)(t:Nat)(x y:Operand)(a b:ByteArray)(P:Program)(w:World):(eqGuard op t x y (.string a) (.string b)).run P w=.ok () w:=by
 unfold eqGuard; split<;>simp
theorem Di(op:BinOp)(t:Nat)(x y:Operand)(a b:Bool)(P:Program)(w:World):(eqGuard op t x y (.bool a) (.bool b)).run P w=.ok () w:=by
 unfold eqGuard; split<;>simp
theorem Zs{k:IntKind}{n:Int}{st qm:St}{d:Option D}:(qu (ib k n) st).leads (d,qm)↔d=some (.qj (.int k) n)/\qm=st:=dR
theorem XK{b:Bool}{st qm:St}{d:Option D}:(qu (bb b) st).leads (d,qm)↔d=some (.qj .bool b)/\qm=st:=dR
theorem LP{op:BinOp}{k:IntKind}{a b:Int}{d:Option D}{st qm:St}{t:Nat}(h:(qu (LN op k a b) st).leads (d,qm))(hs:YD op=false) :
  ∃ y v,d=some y/\qm=st/\(binOp op t (.int k a) (.int k b)).run c.P O.w=.ok v O.w/\RD O y v:=by
 cases op<;>simp only[LN]at h<;>try (exact absurd h zj)
 all_goals first
  | (rw[Zs]at h; obtain⟨rfl,rfl⟩:=h; exact⟨_,_,rfl,rfl,by simp[binOp,Op.intArith,Op.intBits,Xi],RD.int⟩)
  | (rw[XK]at h; obtain⟨rfl,rfl⟩:=h; exact⟨_,_,rfl,rfl,by simp[binOp,Op.intCmp],RD.bool⟩)
  | (rw[yL]at h; obtain⟨J,rfl,rfl⟩:=h; exact⟨_,_,rfl,rfl,by simp[binOp,Op.intDiv,J],RD.int⟩)
theorem Hr(s:zn):(⟨s.toArray⟩:ByteArray).toList=s:=qw
theorem LS{op:BinOp}{a b:zn}{d:Option D}{st qm:St}{t:Nat}(h:(qu (LR op a b) st).leads (d,qm))(hs:YD op=false) :
  ∃ y v,d=some y/\qm=st/\(binOp op t (.string ⟨a.toArray⟩) (.string ⟨b.toArray⟩)).run c.P O.w=.ok v O.w/\RD O y v:=by
 have cm:∀ s:zn,(⟨s.toArray⟩:ByteArray).size=s.length:=λ_=>rfl
 cases op<;>simp only[LR]at h<;>try (exact absurd h zj)
 case add =>
  rw[yL]at h; obtain⟨J,rfl,rfl⟩:=h
  refine⟨_,_,rfl,rfl,?_,RD.str⟩
  have e:(⟨a.toArray⟩++⟨b.toArray⟩:ByteArray)=⟨(cat a b).toArray⟩:=by
   rfl
  have hn:¬ (IntKind.i64.max<((a.length+b.length:Nat):Int)):=by
   have:IntKind.i64.max=9223372036854775807:=qh
   omega
  simp only[binOp,Op.stringOp,cm,hn]
  rfl
 all_goals (rw[XK]at h; obtain⟨rfl,rfl⟩:=h; exact⟨_,_,rfl,rfl,by simp[binOp,Op.stringOp,xx,strLt],RD.bool⟩)
theorem Md{P:Program}{t:Nat}(hu:P.underlying t=some .bool)(a b:Bool)(w:World):(Op.equal t (.bool a) (.bool b)).run P w=.ok (a==b) w:=by
 show(qC (9999+1) t _ _).run P w=_
 rw[qC]
 simp[run_underlying hu]
theorem Ni{a:Ty}{t:Nat}(h:zaM c a t=true):(∃ k,a=.int k/\c.P.underlying t=some (.int k))\/(a=.bool/\c.P.underlying t=some .bool)\/(a=.str/\c.P.underlying t=some .string):=by
 unfold zaM at h
 grind
theorem MT{P:Program}{t:Nat}{u:TypeDesc}(h:P.underlying t=some u)(hn:(match u with | .struct _ | .array _ _=>true | _=>false)=false)(w:World):(isAgg t).run P w=.ok false w:=by
 simp only[isAgg,I,run_underlying h]
 cases u<;>first | rfl | cases hn
theorem mQ{P:Program}{t:Nat}{u:TypeDesc}(h:P.underlying t=some u)(hn:(match u with | .struct _ | .array _ _=>true | _=>false)=false)(pre:List Value)(v:Value)(cs:List Value)(w:World) :
  (part t (pre++v::cs).toArray pre.length).run P w=.ok v w:=by
 simp only[part,I,MT h hn]
 simp
theorem UI{w:World}{ok:Nat->Prop}(dp:Nat):∀ (τ:Ty) (a b:den τ) (off:Nat) (fs:List Field) (pre H9 cs nd:List Value),UL c τ off fs=true->Rc w ok τ a cs->Rc w ok τ b nd->pre.length=off->H9.length=off ->
  (zZ (dp+1) (pre++cs).toArray (H9++nd).toArray fs).run c.P w=.ok (eqT τ a b) w
 | .nil,_,_,_,fs,pre,H9,cs,nd,h,_,_,_,_=>by
  cases fs with
  | nil=>rfl
  | cons f fs=>cases h
 | .cons a r,x,y,off,fs,pre,H9,cs,nd,h,U,hy,hp,hp'=>by
  cases fs with
  | nil=>cases h
  | cons f fs =>
   have h:(decide (f.name ≠ "_")&&(zA f.offset off&&(zaM c a f.type&&UL c r (off+1) fs)))=true:=h
   simp only[zM,decide_eq_true_eq]at h
   obtain⟨h1,X,h3,h4⟩:=h
   have X:=zE X
   obtain⟨c1,c2,rfl,g1,g2⟩:=U.cons_inv
   obtain⟨e1,e2,rfl,k1,k2⟩:=hy.cons_inv
   have ih:=λv v'=>UI dp r x.2 y.2 (off+1) fs (pre++[v]) (H9++[v']) c2 e2 h4 g2 k2 (by simp[hp]) (by simp[hp'])
   have fin:∀ (v v':Value) (q:Bool),c1=[v]->e1=[v']->(part f.type (pre++v::c2).toArray f.offset).run c.P w=.ok v w->(part f.type (H9++v'::e2).toArray f.offset).run c.P w=.ok v' w->(qC (dp+1) f.type v v').run c.P w=.ok q w->eqT a x.1 y.1=q ->
     (zZ (dp+1) (pre++(c1++c2)).toArray (H9++(e1++e2)).toArray (f::fs)).run c.P w=.ok (eqT (.cons a r) x y) w:=by
    rintro v v' q rfl rfl p1 p2 p3 p4
    show(zZ (dp+1) (pre++v::c2).toArray (H9++v'::e2).toArray (f::fs)).run c.P w=.ok (eqT a x.1 y.1&&eqT r x.2 y.2) w
    rw[zZ,if_pos h1]
    simp only[I,p1,p2,p3,Y]
    rw[p4]
    cases q with
    | false=>rfl
    | true =>
     grind
   subst hp
   rcases Ni h3 with⟨k,rfl,hu⟩ | ⟨rfl,hu⟩ | ⟨rfl,hu⟩
   ·exact fin _ _ _ g1.eB k1.eB (by rw[X]; exact mQ hu rfl pre _ c2 w) (by rw[X,<- hp']; exact mQ hu rfl H9 _ e2 w) (run_equalIn_int w dp _ k k _ _ hu) rfl
   ·exact fin _ _ _ g1.cK k1.cK (by rw[X]; exact mQ hu rfl pre _ c2 w) (by rw[X,<- hp']; exact mQ hu rfl H9 _ e2 w) (run_equalIn_bool' w dp _ _ _ hu) rfl
   ·refine fin _ _ _ g1.jq k1.jq (by rw[X]; exact mQ hu rfl pre _ c2 w) (by rw[X,<- hp']; exact mQ hu rfl H9 _ e2 w) (run_equalIn_string w dp _ _ _ hu) ?_
    rw[Hr,Hr]
    rfl
 | .int _,_,_,_,_,_,_,_,_,h,_,_,_,_=>by simp[UL]at h
 | .bool,_,_,_,_,_,_,_,_,h,_,_,_,_=>by simp[UL]at h
 | .str,_,_,_,_,_,_,_,_,h,_,_,_,_=>by simp[UL]at h
 | .sl _,_,_,_,_,_,_,_,_,h,_,_,_,_=>by simp[UL]at h
 | .expr,_,_,_,_,_,_,_,_,h,_,_,_,_=>by simp[UL]at h
theorem Ma{op:BinOp}{t:Nat}{px py:Operand}{x y:Option D}{v u:Value}{d:Option D}{qm:St}(hI:Inv O)(U:∀ z,x=some z->RD O z v)(hy:∀ z,y=some z->RD O z u)
  (h:(qu (z1z c op t x y) O.st).leads (d,qm)):wy c.P (do zG (.value (<- (do eqGuard op t px py v u; binOp op t v u)))) O d qm:=by
 unfold z1z at h
 split at h
 ·rename_i τ a σ b
  split at h
  ·rename_i b' J
   unfold jX at J
   split at J
   ·rename_i e
    subst e
    injection J with J
    subst J
    cases hg:σ.isAgg&&Hs c σ t with
    | false=>rw[hg]at h; exact absurd h zj
    | true =>
     rw[hg,cond_true]at h
     rw[zM]at hg
     obtain⟨hag,hso⟩:=hg
     unfold Hs at hso
     split at hso
     ·rename_i fs hu
      simp at hso
      obtain⟨f1,f2,f3⟩:=hso
      have hfo:c.P.fieldsOf t=fs:=by unfold Program.fieldsOf; rw[hu]
      cases U _ rfl with
      | qj _ _ cs g1 =>
      cases hy _ rfl with
      | qj _ _ nd g2 =>
       have e1:pk σ cs=.agg cs.toArray:=by unfold pk; rw[if_pos hag]
       have e2:pk σ nd=.agg nd.toArray:=by unfold pk; rw[if_pos hag]
       have hr:=UI (c:=c) 9998 σ a b 0 fs.toList [] [] cs nd f1 g1 g2 rfl rfl
       have hq:(qC 10000 t (.agg cs.toArray) (.agg nd.toArray)).run c.P O.w=.ok (eqT σ a b) O.w:=by
        rw[show(10000:Nat)=9999+1 from rfl,run_equalIn_agg O.w 9999 t _ _ (wa) f2,hfo]
        exact hr
       rw[e1,e2]
       cases op<;>try (exact absurd h zj)
       ·rw[XK]at h; obtain⟨rfl,rfl⟩:=h
        refine wy.pure hI ?_ RD.bool
        simp only[I,run_eqGuard_agg O.w _ t px py _ _ f3,Y,run_eql_struct,hq]
       ·rw[XK]at h; obtain⟨rfl,rfl⟩:=h
        refine wy.pure hI ?_ RD.bool
        simp only[I,run_eqGuard_agg O.w _ t px py _ _ f3,Y,run_neq_struct,hq]
     ·cases hso
   ·cases J
  ·exact absurd h zj
 ·exact absurd h zj
theorem G4{op:BinOp}{t:Nat}{px py:Operand}{x y:Option D}{v u:Value}{d:Option D}{qm:St}(hI:Inv O)(U:∀ z,x=some z->RD O z v)(hy:∀ z,y=some z->RD O z u)
  (h:(qu (G3 c op t x y) O.st).leads (d,qm)):wy c.P (do zG (.value (<- (do eqGuard op t px py v u; binOp op t v u)))) O d qm:=by
 unfold G3 at h
 split at h
 ·rename_i k a k' b hk YB
  have:=kF hk U
  subst this
  have:=kF YB hy
  subst this
  split at h
  ·rw[yL]at h
   obtain⟨J,rfl,rfl⟩:=h
   refine wy.pure hI ?_ RD.int
   simp only[I,Xz,Y,binOp,Op.shift,if_neg (show ¬ b<0 by omega)]
   rfl
  ·rw[yL]at h
   obtain⟨J,rfl,rfl⟩:=h
   refine wy.pure hI ?_ RD.int
   simp only[I,Xz,Y,binOp,Op.shift,if_neg (show ¬ b<0 by omega)]
   rfl
  ·rename_i n1 n2
   cases he:decide (k=k')with
   | false=>rw[he]at h; exact absurd h zj
   | true =>
    have Mv:=uC he
    subst Mv
    rw[he,cond_true]at h
    obtain⟨y',v',rfl,rfl,h1,X⟩:=LP (c:=c) (O:=O) (t:=t) h (by cases op<;>first | rfl | (exact absurd rfl n1) | (exact absurd rfl n2))
    exact wy.pure hI (by simp only[I,Xz,Y,h1]) X
 ·split at h
  ·rename_i a b ha J
   have:=Xh ha U
   subst this
   have:=Xh J hy
   subst this
   cases hs:YD op with
   | true=>rw[hs]at h; exact absurd h zj
   | false =>
    rw[hs,cond_false]at h
    obtain⟨y',v',rfl,rfl,h1,X⟩:=LS (c:=c) (O:=O) (t:=t) h hs
    exact wy.pure hI (by simp only[I,Fu,Y,h1]) X
  ·split at h
   ·rename_i a b hu ha J
    have:=Zd ha U
    subst this
    have:=Zd J hy
    subst this
    cases op<;>simp only[z1A]at h<;>try (exact absurd h zj)
    all_goals
     rw[XK]at h; obtain⟨rfl,rfl⟩:=h
     refine wy.pure hI ?_ RD.bool
     simp only[I,Di,Y,binOp,Md hu,zN]
   ·exact Ma hI U hy h
theorem zaY{op:UnOp}{x:Option D}{v:Value}{d:Option D}{qm:St}(hI:Inv O)(U:∀ z,x=some z->RD O z v)
  (h:(qu (z5h op x) O.st).leads (d,qm)):wy c.P (do zG (.value (<- Op.unary op v))) O d qm:=by
 unfold z5h at h
 split at h
 ·split at h
  ·rename_i k n hk
   have:=kF hk U
   subst this
   obtain⟨rfl,rfl⟩:=h
   exact wy.pure hI (by rfl) RD.int
  ·exact absurd h zj
 ·split at h
  ·rename_i b J
   have:=Zd J U
   subst this
   obtain⟨rfl,rfl⟩:=h
   exact wy.pure hI (by rfl) RD.bool
  ·exact absurd h zj
 ·split at h
  ·rename_i k n hk
   have:=kF hk U
   subst this
   obtain⟨rfl,rfl⟩:=h
   exact wy.pure hI (by rfl) RD.int
  ·exact absurd h zj
 ·exact absurd h zj
theorem z8s{t ty:Nat}{ts:Array Nat}{x:Option D}{v:Value}{vs:Array Value}{d:Option D}{qm:St}(hI:Inv O)(U:∀ z,x=some z->RD O z v)(ht:ts[0]? = some t)(hv:vs[0]? = some v)
  (h:(qu (z2P c t x) O.st).leads (d,qm)):wy c.P (do zG (.value (<- zV ts ty vs))) O d qm:=by
 unfold z2P at h
 split at h
 ·rename_i e hu
  have key:∀ (n:Nat) (a:Option Addr) (cap:Nat),v=.slice a n cap->d=some (.qj (.int .i64) (n:Int))->qm=O.st->wy c.P (do zG (.value (<- zV ts ty vs))) O d qm:=by
   rintro n a cap rfl rfl rfl
   exact wy.pure hI (by simp[zV,ht,hv,run_underlying hu,goInt]) RD.int
  split at h
  ·rename_i e' l
   rw[Zs]at h
   rcases((U _ rfl).jP rfl).Z5 with⟨rfl,a0,he⟩ | ⟨blk,off,cap,f,he,_⟩
   ·grind
   ·grind
  ·rename_i e' l ne
   rw[Zs]at h
   cases U _ rfl with
   | vB _ a0=>grind
   | tight=>grind
  ·rw[Zs]at h
   cases U _ rfl
   grind
  ·rw[Zs]at h
   cases U _ rfl
   grind
  ·exact absurd h zj
 ·rename_i hu
  split at h
  ·rename_i s hs
   have:=Xh hs U
   subst this
   obtain⟨rfl,rfl⟩:=h
   have cm:(⟨s.toArray⟩:ByteArray).size=s.length:=rfl
   exact wy.pure hI (by simp only[zV,ht,hv,I,run_underlying hu,Y,goInt,cm,zN]) RD.int
  ·exact absurd h zj
 ·exact absurd h zj
theorem MN{f:Int->Int->Int}{g:Value->Value->Sem Value}{P:Program}(hg:∀ k k' a b,(g (.int k a) (.int k' b)).run P O.w=.ok (.int k (f a b)) O.w){x y:Option D}{v u:Value}{d:Option D}{qm:St}
  (hI:Inv O) (U:∀ z,x=some z->RD O z v) (hy:∀ z,y=some z->RD O z u) (h:(qu (GO f [x,y]) O.st).leads (d,qm)) :
  ∃ r,(g v u).run P O.w=.ok r O.w/\qm=O.st/\∀ d',d=some d'->RD O d' r:=by
 unfold GO at h
 simp only at h
 split at h
 ·rename_i k a k' b hk YB
  have:=kF hk U
  subst this
  have:=kF YB hy
  subst this
  cases he:decide (k=k')with
  | false=>rw[he]at h; exact absurd h zj
  | true =>
   rw[he,cond_true,Zs]at h
   obtain⟨rfl,rfl⟩:=h
   exact⟨_,hg k k' a b,rfl,λd' he=>by cases he; exact RD.int⟩
 ·exact absurd h zj
theorem Dl{x:Option D}{i:Nat}{v:Value}{d:Option D}{qm:St}(hI:Inv O)(U:∀ z,x=some z->RD O z v)
  (h:(qu (JX x i) O.st).leads (d,qm)):wy c.P (do zG (.value (<- Instr.extract v i))) O d qm:=by
 unfold JX at h
 split at h
 ·rename_i vs
  obtain⟨y,hy,rfl,rfl⟩:=GF h
  cases U _ rfl with
  | fj _ us B hh =>
   obtain⟨u,h1,X⟩:=wP.get (⟨B,hh⟩:wP O vs us) hy
   exact wy.pure hI (by simp[Instr.extract,h1]) X
 ·exact absurd h zj
theorem pw:∀ {l:List (Option D)} {ds:List D},gO l=some ds->l=ds.map some
 | [],ds,h=>by simp[gO]at h; subst h; rfl
 | some d::r,ds,h=>by
  simp only[gO]at h
  split at h
  ·rename_i l B; cases h; simp[pw B]
  ·cases h
 | none::r,ds,h=>by simp[gO]at h
theorem ij{l:List (Option D)}{ds:List D}{vs:List Value}(h:gO l=some ds)(B:l.length=vs.length)
  (hr:∀ (i:Nat) (d:D) (v:Value),l[i]? = some (some d)->vs[i]? = some v->RD O d v):wP O ds vs:=by
 have:=pw h
 subst this
 refine⟨wa,λi h1 X=>hr i _ _ ?_ (zP X)⟩
 simp
end
end Go.AM
namespace Go.AM
namespace T
variable {α β γ:Type}
theorem mK{t:T α}{x y:α}(h:t.leads x)(k:t.leads y):x=y:=by
 induction t with
 | ret a=>exact h.symm.trans k
 | ite b p q ip iq =>
  rcases h with⟨h1,h⟩ | ⟨h1,h⟩<;>rcases k with⟨k1,k⟩ | ⟨k1,k⟩
  ·grind
  ·grind
  ·grind
  ·grind
 | zl p t ih=>exact ih h.2 k.2
 | fail=>exact h.elim
theorem zh{t:T α}{f:α->T β}{x:β}:(t.bind f).leads x↔∃ a,t.leads a/\(f a).leads x:=by
 induction t with
 | ret a=>exact⟨λh=>⟨a,rfl,h⟩,λ⟨b,h,k⟩=>by cases h; exact k⟩
 | ite b p q ip iq =>
  constructor
  ·rintro(⟨h1,h⟩ | ⟨h1,h⟩)
   ·obtain⟨a,k1,k2⟩:=ip.1 h; exact⟨a,.inl ⟨h1,k1⟩,k2⟩
   ·obtain⟨a,k1,k2⟩:=iq.1 h; exact⟨a,.inr ⟨h1,k1⟩,k2⟩
  ·rintro⟨a,⟨h1,k1⟩ | ⟨h1,k1⟩,k2⟩
   ·exact .inl ⟨h1,ip.2 ⟨a,k1,k2⟩⟩
   ·exact .inr ⟨h1,iq.2 ⟨a,k1,k2⟩⟩
 | zl p t ih =>
  constructor
  ·rintro⟨h1,h⟩; obtain⟨a,k1,k2⟩:=ih.1 h; exact⟨a,⟨h1,k1⟩,k2⟩
  ·rintro⟨a,⟨h1,k1⟩,k2⟩; exact⟨h1,ih.2 ⟨a,k1,k2⟩⟩
 | fail=>exact⟨λh=>h.elim,λ⟨_,h,_⟩=>h.elim⟩
open Classical in
noncomputable def run:T α->Option α
 | ret a=>some a
 | ite b t e=>bif b then t.run else e.run
 | zl p t=>if p then t.run else none
 | fail=>none
@[simp] theorem xy(a:α):(ret a).run=some a:=rfl
@[simp] theorem znv:(fail:T α).run=none:=rfl
theorem run_ite(b:Bool)(t e:T α):(ite b t e).run=if b=true then t.run else e.run:=by cases b<;>rfl
@[simp] theorem Js(t e:T α):(ite true t e).run=t.run:=rfl
@[simp] theorem Vm(t e:T α):(ite false t e).run=e.run:=rfl
theorem xg{p:Prop}(h:p)(t:T α):(zl p t).run=t.run:=by simp only[run,if_pos h]
theorem vK{b:Bool}(h:b=true)(t e:T α):(ite b t e).run=t.run:=by rw[h]; rfl
theorem ji{b:Bool}(h:b=false)(t e:T α):(ite b t e).run=e.run:=by rw[h]; rfl
theorem yN{t:T α}{x:α}:t.run=some x↔t.leads x:=by
 induction t with
 | ret a=>simp[leads]
 | ite b p q ip iq=>cases b<;>simp[leads,ip,iq]
 | zl p t ih=>by_cases h:p<;>simp[run,leads,ih]
 | fail=>simp[leads]
theorem run_bind(t:T α)(f:α->T β):(t.bind f).run=t.run.bind λa=>(f a).run:=by
 induction t with
 | ret a=>rfl
 | ite b p q ip iq=>cases b<;>simp[bind,ip,iq]
 | zl p t ih=>by_cases h:p<;>simp[run,bind,h,ih]
 | fail=>rfl
theorem zt{t:T α}{a:α}(h:t.run=some a)(f:α->T β):(t.bind f).run=(f a).run:=by rw[run_bind,h]; rfl
section loop
variable {σ ρ:Type} (r:σ->T (σ⊕ρ))
inductive Iter:Nat->σ->ρ->Prop
 | done {s:σ} {x:ρ} (h:(r s).leads (.inr x)):Iter 0 s x
 | step {n:Nat} {s s':σ} {x:ρ} (h:(r s).leads (.inl s')) (k:Iter n s' x):Iter (n+1) s x
theorem Iter.det{r:σ->T (σ⊕ρ)}{n m:Nat}{s:σ}{x y:ρ}(h:Iter r n s x)(k:Iter r m s y):x=y:=by
 induction h generalizing m y with
 | done h =>
  cases k with
  | done k=>have:=mK h k; cases this; rfl
  | step k _=>have:=mK h k; cases this
 | step h _ ih =>
  cases k with
  | done k=>have:=mK h k; cases this
  | step k k2=>have:=mK h k; cases this; exact ih k2
open Classical in
noncomputable def loop (s:σ):T ρ:=if h:∃ x n,Iter r n s x then .ret h.choose else .fail
theorem fI{s:σ}{x:ρ}:(loop r s).leads x↔∃ n,Iter r n s x:=by
 unfold loop
 split
 ·rename_i h
  obtain⟨n,hn⟩:=h.choose_spec
  constructor
  ·intro U; cases U; exact⟨n,hn⟩
  ·rintro⟨m,hm⟩; exact hn.det hm
 ·rename_i h
  exact⟨λk=>k.elim,λ⟨n,hn⟩=>h ⟨x,n,hn⟩⟩
theorem XL{r:σ->T (σ⊕ρ)}(zC:σ->Prop)(μ:σ->Nat)(f:σ->ρ)
  (h:∀ s,zC s->(∃ s',(r s).run=some (.inl s')/\zC s'/\μ s'<μ s/\f s'=f s)\/(r s).run=some (.inr (f s))) {s:σ} (hs:zC s):(loop r s).run=some (f s):=by
 rw[yN,fI]
 generalize hm:μ s=m
 induction m using Nat.strongRecOn generalizing s with
 | _ m ih =>
  rcases h s hs with⟨s',h1,X,h3,h4⟩ | h1
  ·obtain⟨n,hn⟩:=ih (μ s') (Z) X rfl
   exact⟨n+1,.step (yN.1 h1) (h4▸hn)⟩
  ·exact⟨0,.done (yN.1 h1)⟩
theorem WA{r:σ->T (σ⊕ρ)}{s s':σ}(h:(r s).run=some (.inl s')):(loop r s).run=(loop r s').run:=by
 have h':=yN.1 h
 apply Option.ext
 intro x
 show(loop r s).run=some x↔(loop r s').run=some x
 rw[yN,yN,fI,fI]
 constructor
 ·rintro⟨n,hn⟩
  cases hn with
  | done k=>have:=mK h' k; cases this
  | step k k2=>have:=mK h' k; cases this; exact⟨_,k2⟩
 ·rintro⟨n,hn⟩; exact⟨n+1,.step h' hn⟩
theorem rf{r:σ->T (σ⊕ρ)}{s:σ}{x:ρ}(h:(r s).run=some (.inr x)):(loop r s).run=some x:=by
 rw[yN,fI]; exact⟨0,.done (yN.1 h)⟩
end loop
section fix
variable {σ ρ:Type} (b:(σ->T ρ)->σ->T ρ)
def V5:Nat->σ->T ρ
 | 0,_=>.fail
 | n+1,x=>b (V5 n) x
open Classical in
noncomputable def fix (x:σ):T ρ:=if h:∃ y n,∀ m,n<=m->(V5 b m x).leads y then .ret h.choose else .fail
theorem mI{x:σ}{y:ρ}:(fix b x).leads y↔∃ n,∀ m,n<=m->(V5 b m x).leads y:=by
 unfold fix
 split
 ·rename_i h
  obtain⟨n,hn⟩:=h.choose_spec
  constructor
  ·intro U; cases U; exact⟨n,hn⟩
  ·rintro⟨k,hk⟩; exact mK (hn (max n k) (Z)) (hk (max n k) (Z))
 ·rename_i h
  exact⟨λk=>k.elim,λ⟨n,hn⟩=>h ⟨y,n,hn⟩⟩
end fix
def Jl:T α->Option Prop
 | ret _=>none
 | ite b t e=>match t.Jl,e.Jl with
  | none,none=>none
  | some p,none=>some (b=true->p)
  | none,some q=>some (b=false->q)
  | some p,some q=>some ((b=true->p)/\(b=false->q))
 | zl p t=>match t.Jl with
  | none=>some p
  | some q=>some (p/\q)
 | fail=>some False
def val(d:α):T α->α
 | ret a=>a
 | ite b t e=>bif b then t.val d else e.val d
 | zl _ t=>t.val d
 | fail=>d
def flat(d:α)(t:T α):T α:=match t.Jl with
 | none=>.ret (t.val d)
 | some p=>.zl p (.ret (t.val d))
def Yn(t:T α):Prop:=match t.Jl with | none=>True | some p=>p
theorem Ha(d:α)(t:T α)(x:α):t.leads x↔t.Yn/\t.val d=x:=by
 induction t with
 | ret a=>simp[leads,Yn,Jl,val]
 | ite b p q ip iq =>
  cases b
  ·simp only[leads,val,iq]
   unfold Yn
   simp only[Jl]
   grind
  ·simp only[leads,val,ip]
   unfold Yn
   simp only[Jl]
   grind
 | zl p t ih =>
  simp only[leads,ih,val]
  unfold Yn
  simp only[Jl]
  grind
 | fail=>simp[leads,Yn,Jl]
end T
abbrev q9(x:Int):Int:=zX .i64 x
abbrev xo(x:Int):Int:=zX .u64 x
abbrev kT(x:Int):Int:=zX .u32 x
abbrev wu8(x:Int):Int:=zX .u8 x
def zu(vn off len n:Nat):Prop:=vn=n/\off=0/\len=n
def xe(i:Int)(n:Nat):Prop:=0<=i/\i<(n:Int)
def j6(vn ef idx n:Nat):Prop:=vn=ef/\idx<n
def vZ(vn ef off len n m bytes:Nat):Prop:=vn=ef/\off=0/\len=n/\(n+m)*bytes<=140737488355328
def jv(l h:Int)(n:Nat):Prop:=0<=l/\l<=h/\h<=(n:Int)
def znz(l h m:Int)(n:Nat):Prop:=0<=l/\l<=h/\h=m/\h<=(n:Int)
def Bp(l:zn):Nat->zn
 | 0=>[]
 | c+1=>l++Bp l c
def HZ(u:Nat):zn:=if h:u<10 then[UInt8.ofNat (48+u)]else HZ (u / 10)++[UInt8.ofNat (48+u % 10)]
termination_by u
decreasing_by omega
def KH(n:Int):zn:=if n<0 then 45::HZ n.natAbs else HZ n.toNat
def V8:zn->zn->Int
 | [],sub=>if sub.isEmpty then 0 else -1
 | b::l,sub=>if sub.isPrefixOf (b::l)then 0 else if V8 l sub == -1 then -1 else V8 l sub+1
def UR:zn->UInt8->Int
 | [],_ => -1
 | b::l,c=>if b==c then 0 else if UR l c == -1 then -1 else UR l c+1
def Uz(s sep:zn):zn×zn×Bool:=if 0<=V8 s sep then(s.take (V8 s sep).toNat,s.drop ((V8 s sep).toNat+sep.length),true)else(s,[],false)
def Eo(s p:zn):zn:=if List.isPrefixOf p s=true then s.drop p.length else s
def mm(s:zn):den (nC .bool 256):=SX (e:=.bool) (λj=>s.contains (UInt8.ofNat j)) 256 0
def Xo(v v' o l n:Nat):Prop:=v=v'/\o+l<=n
def DO(a b:Nat):Nat:=min a b
def dS(n m:Int)(bytes:Nat):Prop:=0<=n/\n<=m/\m*bytes<=140737488355328/\m<=140737488355328
def nth{α:Type}(l:List α)(i:Int)(d:α):α:=zR l i.toNat d
def wB{α:Type}(l:List α)(i:Nat)(d:α):α:=zR l i d
def vx(s:zn)(i:Int):Int:=((zR s i.toNat 0).toNat:Int)
def YY(k:IntKind)(x y:Int):Int:=Xi k (· &&& ·) x y
def JJ(k:IntKind)(x y:Int):Int:=Xi k (· ||| ·) x y
def NH(k:IntKind)(x y:Int):Int:=Xi k (· ^^^ ·) x y
def z5a(l:List Int):T (zn×Unit):=.zl ((∀ n∈l,(0:Int)<=n/\n<256)/\R l<=140737488355328) (.ret (jd l,()))
def z4H(b:UInt8):List zn->List zn
 | []=>[[b]]
 | x::y=>(b::x)::y
def eT(c:UInt8):zn->List zn
 | []=>[[]]
 | b::r=>if b=c then[]::eT c r else z4H b (eT c r)
def cd(c:UInt8):zn->zn->List zn
 | cur,[]=>if cur=[]then[]else[cur]
 | cur,b::r=>if b=c then(if cur=[]then cd c [] r else cur::cd c [] r)else cd c (cur++[b]) r
def si:zn->zn->Int
 | [],_ => -1
 | b::l,chars=>if chars.contains b then 0 else if si l chars == -1 then -1 else si l chars+1
abbrev oI{A zD:Type}(i:Int)(l:List A)(t:T zD):T zD:=.zl (xe i l.length) t
abbrev W{A zD:Type}(l:List A)(t:T zD):T zD:=.zl (l.length=l.length) t
abbrev oC{A zD:Type}(l:List A)(t:T zD):T zD:=.zl (zu l.length 0 l.length l.length) t
abbrev oM{zD:Type}(a b:Nat)(t:T zD):T zD:=.zl (zu a 0 a b) (.zl (a=b) t)
abbrev oA{A zD:Type}(l:List A)(k:Nat)(t:T zD):T zD:=.zl (vZ l.length l.length 0 l.length l.length 1 k) t
abbrev oK{zD:Type}(a b:zn)(t:T zD):T zD:=.zl (a.length+b.length<=4611686018427387904) t
abbrev oZ{zD:Type}(t:T zD):T zD:=.zl (zu 0 0 0 0) (.zl ((0:Nat)=0) t)
abbrev oV{A hl C D κ' F zD:Type}(a:List A)(b:List hl)(c:List C)(d:List D)(e:List κ')(f:List F)(t:T zD):T zD:=oC a (oC b (oC c (oC d (oC e (oC f t)))))
abbrev oW{A hl C D κ' F zD:Type}(a:List A)(b:List hl)(c:List C)(d:List D)(e:List κ')(f:List F)(t:T zD):T zD:=W a (W b (W c (W d (W e (W f t)))))
abbrev oY{A hl C D κ' F zD:Type}(a:List A)(b:List hl)(c:List C)(d:List D)(e:List κ')(f:List F)(t:T zD):T zD:=oV a b c d e f (oW a b c d e f t)
namespace T
variable {α β:Type}
attribute [simp] run_bind
@[simp] theorem IQ(b:Bool)(t e:T α):(ite b t e).run=if b=true then t.run else e.run:=run_ite b t e
@[simp] theorem vP{i:Int}{n:Nat}(t:T α)(h1:0<=i)(X:i<(n:Int)):(zl (xe i n) t).run=t.run:=xg ⟨h1,X⟩ t
@[simp] theorem ik{v v' i n:Nat}(t:T α)(h1:v=v')(X:i<n):(zl (j6 v v' i n) t).run=t.run:=xg ⟨h1,X⟩ t
@[simp] theorem zok{v v' o l n m b:Nat}(t:T α)(h1:v=v')(X:o=0)(h3:l=n)(h4:(n+m)*b<=140737488355328):(zl (vZ v v' o l n m b) t).run=t.run:=xg ⟨h1,X,h3,h4⟩ t
@[simp] theorem bG{v o l n:Nat}(t:T α)(h1:v=n)(X:o=0)(h3:l=n):(zl (zu v o l n) t).run=t.run:=xg ⟨h1,X,h3⟩ t
@[simp] theorem W6{l h:Int}{n:Nat}(t:T α)(h1:0<=l)(X:l<=h)(h3:h<=(n:Int)):(zl (jv l h n) t).run=t.run:=xg ⟨h1,X,h3⟩ t
@[simp] theorem run_mk{n m:Int}{b:Nat}(t:T α)(h1:0<=n)(X:n<=m)(h3:m*b<=140737488355328)(h4:m<=140737488355328):(zl (dS n m b) t).run=t.run:=xg ⟨h1,X,h3,h4⟩ t
@[simp] theorem zaL{v v' o l n:Nat}(t:T α)(h1:v=v')(X:o+l<=n):(zl (Xo v v' o l n) t).run=t.run:=xg ⟨h1,X⟩ t
@[simp] theorem gx{a b:Nat}(t:T α)(h:a=b):(zl (a=b) t).run=t.run:=xg h t
@[simp] theorem zol{a b:Nat}(t:T α)(h:a<=b):(zl (a<=b) t).run=t.run:=xg h t
@[simp] theorem lH{a b:Int}(t:T α)(h:a<=b):(zl (a<=b) t).run=t.run:=xg h t
@[simp] theorem tQ{a b:Int}(t:T α)(h:a≠b):(zl (a≠b) t).run=t.run:=xg h t
@[simp] theorem zs3{A:Type}{i:Int}{l:List A}(t:T α)(h1:0<=i)(X:i<(l.length:Int)):(oI i l t).run=t.run:=xg ⟨h1,X⟩ t
@[simp] theorem zs2{A:Type}(l:List A)(t:T α):(W l t).run=t.run:=xg rfl t
@[simp] theorem zs1{A:Type}(l:List A)(t:T α):(oC l t).run=t.run:=xg ⟨rfl,rfl,rfl⟩ t
@[simp] theorem zs5{a b:Nat}(t:T α)(h:a=b):(oM a b t).run=t.run:=(xg ⟨h,rfl,h⟩ _).trans (xg h t)
@[simp] theorem zs0{A:Type}{l:List A}{k:Nat}(t:T α)(h:(l.length+1)*k<=140737488355328):(oA l k t).run=t.run:=xg ⟨rfl,rfl,rfl,h⟩ t
@[simp] theorem zs4{a b:zn}(t:T α)(h:a.length+b.length<=4611686018427387904):(oK a b t).run=t.run:=xg h t
@[simp] theorem Hn(t:T α):(zl True t).run=t.run:=xg trivial t
end T
@[simp] theorem qs{x:Int}(h1 : -9223372036854775808<=x)(X:x<=9223372036854775807):q9 x=x:=IntWalk.i64_in x ⟨h1,X⟩
@[simp] theorem zfD{x:Int}(h1:0<=x)(X:x<=255):wu8 x=x:=IntWalk.u8_in x ⟨h1,X⟩
@[simp] theorem Sr{x:Int}(h1:0<=x)(X:x<=4294967295):kT x=x:=IntWalk.u32_in x ⟨h1,X⟩
@[simp] theorem b9{x:Int}(h1:0<=x)(X:x<=18446744073709551615):xo x=x:=IntWalk.u64_in x ⟨h1,X⟩
theorem ZK(x:Int):kT x=x % 4294967296:=IntKind.wrap_u32 x
theorem Lg(x:Int):xo x=x % 18446744073709551616:=IntKind.wrap_u64 x
end Go.AM