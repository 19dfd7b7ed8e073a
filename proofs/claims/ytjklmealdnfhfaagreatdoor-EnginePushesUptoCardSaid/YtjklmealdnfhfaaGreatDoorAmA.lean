/-
  The abstract machine, part A: texts of our own, the same for each claim.
-/
import Derived.WalkKit
import Derived.Maps.OwnOps
import Derived.Maps.Views
import Derived.Laws.StructEq
set_option linter.unusedVariables false
open Nat renaming beq -> zA, eq_of_beq_eq_true -> zE, le_refl -> zF, blt -> zI, ble -> zJ, le_of_ble_eq_true -> zK, le_trans -> zS
open Go.Result renaming andThen_ok -> Y
open Go.Sem renaming run_bind -> X, run_pure -> zN
open List renaming length -> V, getElem?_eq_getElem -> zP, getD -> zR, length_nil -> zY
open Pure renaming pure -> zG
open Go.Instr renaming sliceAt -> zH, slice -> zL, indexAt -> zO, sureAddr -> zQ, sliceBounds -> zU, loadAt -> zW, fieldAt -> qB, field -> qD
open Bool renaming and_eq_true -> zM
open Int renaming cast_ofNat_Int -> zT
open Go.Builtin renaming len_ -> zV
open Go.IntKind renaming wrap -> zX
open Go.Op renaming eqFields -> zZ, equalIn -> qC
open Go.Value renaming cells -> qA
namespace Go
theorem Z{p:Prop}(h:p:=by omega):p:=h
theorem xn{p:Prop}(h:p:=by decide):p:=h
theorem qz{p:Prop}(h:p:=by simp):p:=h
theorem xy{p:Prop}(h:p:=by grind):p:=h
theorem uB{p:Prop}[Decidable p](h:decide p=true):p:=of_decide_eq_true h
theorem hJ{p:Prop}[Decidable p](h:decide p=false):Not p:=of_decide_eq_false h
end Go
namespace Go.AM
theorem rP{a b c d:Prop}(h:a\/b)(f:a->c)(g:b->d):c\/d:=xy
abbrev zx:=List UInt8
inductive Ty where
 | int (k:IntKind) | bool | str | sl (e:Ty) | nil | cons (a b:Ty) | expr
 deriving DecidableEq
inductive Expr where
 | mk (kind:Int) (num:Bool×List Int×List Int×Unit) (name:zx) (kids:List Expr)
def Expr.kind:Expr->Int | .mk k _ _ _=>k
def Expr.num:Expr->Bool×List Int×List Int×Unit | .mk _ n _ _=>n
def Expr.name:Expr->zx | .mk _ _ n _=>n
def Expr.kids:Expr->List Expr | .mk _ _ _ l=>l
@[reducible] def den:Ty->Type
 | .int _=>Int
 | .bool=>Bool
 | .str=>zx
 | .sl e=>List (den e)
 | .nil=>Unit
 | .cons a b=>den a×den b
 | .expr=>Expr
abbrev u32:Ty:=.int .u32
abbrev i64:Ty:=.int .i64
abbrev Bn:Ty:=.cons .bool (.cons (.sl u32) (.cons (.sl u32) .nil))
abbrev Jy:Ty:=.cons i64 (.cons Bn (.cons .str (.cons (.sl .expr) .nil)))
def Expr.z02(e:Expr):den Jy:=(e.kind,e.num,e.name,e.kids,())
def Expr.Li(x:den Jy):Expr:=.mk x.1 x.2.1 x.2.2.1 x.2.2.2.1
def Ty.size:Ty->Nat
 | .int _ | .bool | .str | .sl _=>1
 | .nil=>0
 | .cons a b=>a.size+b.size
 | .expr=>6
def Ty.isAgg:Ty->Bool
 | .nil | .cons _ _ | .expr=>true
 | _=>false
def zb:(τ:Ty)->den τ
 | .int _=>(0:Int)
 | .bool=>false
 | .str=>([]:zx)
 | .sl e=>([]:List (den e))
 | .nil=>()
 | .cons a b=>(zb a,zb b)
 | .expr=>.mk 0 (false,[],[],()) [] []
inductive D where
 | qj (τ:Ty) (x:den τ)
 | tight (e:Ty) (l:List (den e)) (ne:Bool)
 | sr (e:Ty) (l:List (den e)) (b:Bool)
 | wE | gU | v8 | gj | uT
 | ptr (b off:Nat)
 | vA (τ:Ty) (x:den τ)
 | gG (b vi:Nat) (e:Ty) (idx off:Nat)
 | ms (b vi:Nat) (e:Ty) (off len:Nat)
 | wh (f:Nat) (cap:List D)
 | agg (cs:List D)
 | eD (vs:List D)
 | iface (t:Nat) (d:D)
 | WH
 | ed (b T:Nat)
 | mP (T:Nat)
 | yL (b:Nat)
 | Bg (l:List Int)
inductive cJ where
 | dead
 | var (d:D)
 | arr (vi:Nat) (e:Ty) (xs:List (den e))
abbrev St:=List cJ
inductive T(α:Type) where
 | ret (a:α)
 | ite (b:Bool) (t e:T α)
 | W (p:Prop) (t:T α)
 | fail
namespace T
variable {α β:Type}
def bind:T α->(α->T β)->T β
 | ret a,k=>k a
 | ite b t e,k=>ite b (t.bind k) (e.bind k)
 | W p t,k=>W p (t.bind k)
 | fail,_=>fail
def YV:Option α->T α
 | some a=>ret a
 | none=>fail
def leads:T α->α->Prop
 | ret a,x=>a=x
 | ite b t e,x=>(b=true/\t.leads x)\/(b=false/\e.leads x)
 | W p t,x=>p/\t.leads x
 | fail,_=>False
def wp(Q:α->Prop):T α->Prop
 | ret a=>Q a
 | ite b t e=>(b=true->t.wp Q)/\(b=false->e.wp Q)
 | W p t=>p/\t.wp Q
 | fail=>False
end T
abbrev Fr:=List (Nat×Option D)
def Fr.get:Fr->Nat->Option D
 | [],_=>none
 | (t,d)::r,s=>bif zA t s then d else Fr.get r s
def Fr.put(fr:Fr)(dst:Option Nat)(d:Option D):Fr :=
 match dst with
 | some t=>(t,d)::fr
 | none=>fr
abbrev Kn:=List (Nat×Option Bool)
def Kn.get:Kn->Nat->Option Bool
 | [],_=>none
 | (t,b)::r,s=>bif zA t s then b else Kn.get r s
inductive GC where
 | ret (ds:List D)
 | hZ (d:D)
inductive UO where
 | rp (τ:Ty) | im (τ:Ty)
inductive Vt where
 | ty (τ:Ty) | rp (τ:Ty) | wh (f:Nat) (caps:List UO)
structure Sig where
 params:List Vt
 res:List Ty
structure Ctx where
 P:Program
 xid:Nat
 sig:Nat->List D->Option Sig
 fn:Nat->List D->St->T (GC×St)
 ro:Nat->Bool
 /-- Blocks that a call leaves as they are. -/
 free:Nat->List D->St->List Nat
 z03:∀ (g:Nat) (args:List D) (st:St) (rs:GC) (qm:St) (b:Nat),(fn g args st).leads (rs,qm)->b∈free g args st->qm[b]? = st[b]?
 /-- What a call touches that lays no new block. -/
 Qt:Nat->List D->Option (List Nat)
 Pq:∀ (g:Nat) (args:List D) (oE:List Nat) (st:St) (rs:GC) (qm:St),Qt g args=some oE->(fn g args st).leads (rs,qm) ->
  qm.length=st.length/\(∀ b,b<st.length->b ∉ oE->qm[b]? = st[b]?)/\∀ x,(fn g args (st++[x])).leads (rs,qm++[x])
inductive Ex where
 | normal | exit (id:Nat) | ret | hZ (d:D)
class Wm where
 u8:Nat
def zcY[Wm](e:Ty)(t:Nat):Bool:=match e with
 | .int .u8=>zA t Wm.u8
 | _=>true
def za7[Wm](e:Ty)(t:Nat):Prop:=e=.int .u8->t=Wm.u8
section ops
variable (c:Ctx)
variable [Wm]
def te(t:Nat):Option Nat:=(c.P.info? t).map (·.size)
def pH(t:Nat):Option Nat:=(c.P.info? t).map (·.bytes)
def DA(t:Nat):Option Bool:=match c.P.underlying t with | some (.struct _) | some (.array _ _)=>some true | some _=>some false | none=>none
def ob:List (Option Ty)->Option Ty
 | []=>some .nil
 | some a::r=>match ob r with | some b=>some (.cons a b) | none=>none
 | none::_=>none
def Gr:Nat->Nat->Option Ty
 | 0,_=>none
 | n+1,t=>bif zA t c.xid then some .expr else
  match c.P.underlying t with
  | some (.int k)=>some (.int k)
  | some .bool=>some .bool
  | some .string=>some .str
  | some (.slice e)=>match Gr n e with | some a=>some (.sl a) | none=>none
  | some (.struct fs)=>ob (fs.toList.map λf=>Gr n f.type)
  | some (.array k e)=>ob (List.replicate k (Gr n e))
  | _=>none
def bZ(t:Nat)(τ:Ty):Bool:=zcY τ t&&(match te c t with | some n=>zA n τ.size | none=>false)&&(match DA c t with | some b=>b==τ.isAgg | none=>false)
def Xl:Value->Option D
 | .int k n=>some (.qj (.int k) n)
 | .bool b=>some (.qj .bool b)
 | .string s=>some (.qj .str s.data.toList)
 | .slice none 0 0=>some .wE
 | .pointer none=>some .gU
 | .nilFunc=>some .gj
 | .nilIface=>some .v8
 | .map none=>some .uT
 | _=>none
def gA:List (Option D)->Option (List D)
 | []=>some []
 | some d::r=>match gA r with | some l=>some (d::l) | none=>none
 | none::_=>none
def JO:Value->Option D
 | .agg cs=>match gA (cs.toList.map Xl)with | some l=>some (.agg l) | none=>none
 | v=>Xl v
def flat:(τ:Ty)->den τ->List D
 | .int k,x=>[.qj (.int k) x]
 | .bool,x=>[.qj .bool x]
 | .str,x=>[.qj .str x]
 | .sl e,x=>[.qj (.sl e) x]
 | .nil,_=>[]
 | .cons a b,x=>flat a x.1++flat b x.2
 | .expr,x=>[.qj i64 x.kind,.qj .bool x.num.1,.qj (.sl u32) x.num.2.1,.qj (.sl u32) x.num.2.2.1,.qj .str x.name,.qj (.sl .expr) x.kids]
def xx:D->List D
 | .qj τ x=>flat τ x
 | .agg cs=>cs
 | .eD _=>[]
 | .Bg _=>[]
 | d=>[d]
def D.isAgg:D->Bool
 | .agg _=>true
 | _=>false
def D.cE:D->Bool
 | .qj τ _=>τ.isAgg
 | .agg _=>true
 | _=>false
def D.ze5:D->Bool
 | .qj τ _=>τ.isAgg
 | .agg _=>true
 | _=>false
def l9:List D->Option Nat
 | .mP T::_=>some T
 | .ed _ T::_=>some T
 | _=>none
def D.typed:D->Option Nat
 | .agg l=>l9 l
 | _=>none
def ZY(d d':D):Bool:=match d'.typed with
 | none=>true
 | some T=>match d.typed with | some T'=>zA T T' | none=>false
def D.Yo:D->Bool
 | .Bg _=>true
 | _=>false
def D.bz:D->Bool
 | .eD _=>true
 | _=>false
def jR{a b:Ty}(x:den a):Option (den b):=if h:a=b then some (h▸x)else none
def mO(e:Ty):Nat->Ty
 | 0=>.nil
 | n+1=>.cons e (mO e n)
def DJ:Ty->Option (Ty×Nat)
 | .cons e r=>match r with
  | .nil=>some (e,1)
  | r=>match DJ r with
   | some (e',n)=>bif decide (e=e')then some (e,n+1)else none
   | none=>none
 | _=>none
def Wv(e:Ty):(τ:Ty)->den τ->Nat->den e
 | .cons _ _,x,0=>match(jR x.1:Option (den e))with | some y=>y | none=>zb e
 | .cons _ b,x,i+1=>Wv e b x.2 i
 | _,_,_=>zb e
def Rb{e:Ty}(f:Nat->den e):(n:Nat)->Nat->den (mO e n)
 | 0,_=>()
 | n+1,k=>(f k,Rb f n (k+1))
def pI(τ:Ty):D->Option (den τ)
 | .qj σ x=>jR x
 | .tight e l _=>jR (a:=.sl e) l
 | .sr e l _=>jR (a:=.sl e) l
 | .wE=>match τ with | .sl e=>some ([]:List (den e)) | _=>none
 | _=>none
def cH:(τ:Ty)->List D->Option (den τ×List D)
 | .int k,d::r=>match pI (.int k) d with | some x=>some (x,r) | none=>none
 | .bool,d::r=>match pI .bool d with | some x=>some (x,r) | none=>none
 | .str,d::r=>match pI .str d with | some x=>some (x,r) | none=>none
 | .sl e,d::r=>match pI (.sl e) d with | some x=>some (x,r) | none=>none
 | .nil,r=>some ((),r)
 | .cons a b,r=>match cH a r with
  | some (x,r')=>match cH b r' with | some (y,r'')=>some ((x,y),r'') | none=>none
  | none=>none
 | .expr,[]=>none
 | .expr,d::r=>match pI i64 d with
  | none=>none
  | some k=>match r with
   | d1::d2::d3::d4::d5::r' =>
    match pI .bool d1,pI (.sl u32) d2,pI (.sl u32) d3,pI .str d4,pI (.sl .expr) d5 with
    | some a,some n,some m,some s,some l=>some (Expr.mk k (a,n,m,()) s l,r')
    | _,_,_,_,_=>none
   | _=>none
 | _,[]=>none
def ox(τ:Ty)(d:D):Option (den τ) :=
 match d with
 | .qj σ x=>jR x
 | .Bg _=>none
 | d=>bif (d.isAgg==τ.isAgg) && !d.bz then match cH τ (xx d)with
   | some (x,[])=>some x
   | _=>none
  else none
def Zb(st:St):D->T D
 | .ms b vi e off len=>match st[b]? with
  | some (.arr dD e' xs)=>if h:e'=e then .W (vi=dD) (.ret (.qj (.sl e) (h▸((xs.take (off+len)).drop off:List (den e')))))else .fail
  | _=>.fail
 | d=>.ret d
def Bv(st:St):List D->T (List D)
 | []=>.ret []
 | d::r=>(Zb st d).bind λx=>(Bv st r).bind λl=>.ret (x::l)
def snap(st:St):D->T D
 | .agg cs=>(Bv st cs).bind λl=>.ret (.agg l)
 | d=>Zb st d
def VF(st:St)(τ:Ty)(d:D):T (den τ):=(snap st d).bind λx=>.YV (ox τ x)
def U1:D->Bool | .ms .. => true | _=>false
inductive dR where
 | val (t:T (Option D))
 | rd (k:St->T (Option D))
 | wr (k:St->T (Option D×St))
def val(d:D):dR:=.val (.ret (some d))
def z8v(d:Option D):dR:=match d with | some d=>.val (.ret (some d)) | none=>.val .fail
def bad:dR:=.val .fail
def za8(t:Nat):Bool:=match c.P.underlying t with
 | some (.struct fs)=>match fs[0]? with
  | some fd=>match c.P.underlying fd.type with | some (.pointer e)=>zA e t | _=>false
  | none=>false
 | _=>false
def z1Z(t:Nat)(d:D):D:=match d with
 | .agg (.gU::r)=>bif za8 c t then .agg (.mP t::r)else .agg (.gU::r)
 | d=>d
def K4(t:Nat):Option D:=match c.P.info? t with
 | some i=>match i.zero with | some z=>(match JO z with | some d=>some (z1Z c t d) | none=>none) | none=>none
 | none=>none
def BC(l:List D)(off n:Nat):Option (List D) :=
 bif zJ (off+n) l.length then some ((l.drop off).take n)else none
def LP(t:Nat)(d:D)(off:Nat):Option D :=
 match DA c t with
 | some true=>match te c t with
  | none=>none
  | some n=>bif (zA off 0)&&zA n (xx d).length&&d.ze5 then some d
   else match BC (xx d) off n with | some l=>some (.agg l) | none=>none
 | some false=>(xx d)[off]?
 | none=>none
def H8(t:Nat)(d:D)(off:Nat)(x:D):Option D :=
 match te c t with
 | none=>none
 | some n=>bif zI 0 n&&zA n (xx x).length&&zJ (off+n) (xx d).length then
   bif zA n (xx d).length then(bif d.cE && !x.cE then some (.agg (xx x))else some x)
   else some (.agg ((xx d).take off++xx x++(xx d).drop (off+n)))
  else none
def WZ(t:Nat)(a:Option D):dR:=match a with
 | some (.vA τ x)=>bif bZ c t τ then val (.qj τ x)else bad
 | some (.ptr b off)=>.rd λst=>match st[b]? with
  | some (.var d)=>bif d.Yo then .fail else match LP c t d off with | some r=>.ret (some r) | none=>.fail
  | _=>.fail
 | some (.gG b vi e idx off)=>.rd λst=>match st[b]? with
  | some (.arr dD e' xs)=>bif decide (e'=e)then
    .W (vi=dD/\idx<xs.length) (match LP c t (.qj e' (xs.getD idx (zb e'))) off with | some r=>.ret (some r) | none=>.fail)
   else .fail
  | _=>.fail
 | _=>bad
def KI(t:Nat)(a:Option D)(v:Option D):dR:=match a,v with
 | some (.ptr b off),some x=>.wr λst=>match st[b]? with
  | some (.var d)=>match H8 c t d off x with | some r=>bif ZY d r then .ret (none,st.set b (.var r))else .fail | none=>.fail
  | _=>.fail
 | some (.gG b vi e idx off),some x=>.wr λst=>match st[b]? with
  | some (.arr dD e' xs)=>bif decide (e'=e)then
    .W (vi=dD/\idx<xs.length) (match H8 c t (.qj e' (xs.getD idx (zb e'))) off x with
     | some r=>match ox e' r with | some y=>.ret (none,st.set b (.arr dD e' (xs.set idx y))) | none=>.fail
     | none=>.fail)
   else .fail
  | _=>.fail
 | _,_=>bad
def X1:(τ:Ty)->den τ->Nat->Option (D×Nat×Nat)
 | .cons a _,x,0=>some (.vA a x.1,0,a.size)
 | .cons a b,x,n+1=>match X1 b x.2 n with | some (d,o,s)=>some (d,a.size+o,s) | none=>none
 | .expr,x,0=>some (.vA i64 x.kind,0,1)
 | .expr,x,1=>some (.vA Bn x.num,1,3)
 | .expr,x,2=>some (.vA .str x.name,4,1)
 | .expr,x,3=>some (.vA (.sl .expr) x.kids,5,1)
 | _,_,_=>none
def Km(s f:Nat):Option (Nat×Nat):=match c.P.underlying s with
 | some (.struct fs)=>match fs[f]? with
  | some fd=>match te c fd.type with | some n=>bif zA n 0 then none else some (fd.offset,n) | none=>none
  | none=>none
 | _=>none
def QZ(s f:Nat)(a:Option D):dR:=match Km c s f with
 | none=>bad
 | some (o,n)=>match a with
  | some (.vA τ x)=>match X1 τ x f with
   | some (d,o',n')=>bif zA o o'&&zA n n' then val d else bad
   | none=>bad
  | some (.ptr b off)=>val (.ptr b (off+o))
  | some (.gG b vi e idx off)=>val (.gG b vi e idx (off+o))
  | _=>bad
def Ce(s f:Nat)(a:Option D):dR:=match c.P.underlying s with
 | some (.struct fs)=>match fs[f]? with
  | some fd=>match a with
   | some d=>z8v (bif d.cE then LP c fd.type d fd.offset else none)
   | none=>bad
  | none=>bad
 | _=>bad
def asInt:Option D->Option (IntKind×Int)
 | some (.qj (.int k) n)=>some (k,n)
 | _=>none
def KU:Option D->Option zx
 | some (.qj .str s)=>some s
 | _=>none
def asBool:Option D->Option Bool
 | some (.qj .bool b)=>some b
 | _=>none
def mU(t:Nat):Option Nat:=match c.P.underlying t with | some (.slice e)=>some e | _=>none
def zaR(t:Nat):Option (Nat×Nat):=match c.P.underlying t with | some (.array n e)=>some (n,e) | _=>none
def Ym(t:Nat)(x:Option D)(i:Int):dR:=match zaR c t,x with
 | some (n,et),some (.vA τ y)=>match DJ τ with
  | some (e,m)=>bif bZ c et e&&zA n m then .val (.W (0<=i/\i<(n:Int)) (.ret (some (.vA e (Wv e τ y i.toNat)))))else bad
  | none=>bad
 | _,_=>bad
def X3(t:Nat)(x i:Option D):dR:=match mU c t,asInt i with
 | none,some (_,i)=>Ym c t x i
 | some et,some (_,i)=>match x with
  | some (.qj (.sl e) l)=>bif bZ c et e then .val (.W (0<=i/\i<(V l:Int)) (.ret (some (.vA e (zR l i.toNat (zb e))))))else bad
  | some (.tight e l _)=>bif bZ c et e then .val (.W (0<=i/\i<(V l:Int)) (.ret (some (.vA e (zR l i.toNat (zb e))))))else bad
  | some (.ms b vi e off len)=>bif bZ c et e then .val (.W (0<=i/\i<(len:Int)) (.ret (some (.gG b vi e (off+i.toNat) 0))))else bad
  | _=>bad
 | _,_=>bad
def Ct(t:Nat)(x i:Option D):dR:=match asInt i,KU x,c.P.underlying t with
 | some (_,i),some s,some .string=>.val (.W (0<=i/\i<(V s:Int)) (.ret (some (.qj (.int .u8) ((zR s i.toNat 0).toNat:Int)))))
 | _,_,_=>bad
def Rf(d:Int):Option (Option D)->Option Int
 | none=>some d
 | some x=>match asInt x with | some (_,i)=>some i | none=>none
def fK(l h:Int)(s:zx):zx:=(s.take h.toNat).drop l.toNat
def jJ{e:Ty}(l h:Int)(s:List (den e)):List (den e):=(s.take h.toNat).drop l.toNat
def D2(t:Nat)(x:Option D)(lo hi mx:Option (Option D)):dR:=match x with
 | some (.qj .str s)=>match c.P.underlying t,mx,Rf 0 lo,Rf (V s) hi with
  | some .string,none,some l,some h=>.val (.W (0<=l/\l<=h/\h<=(V s:Int)) (.ret (some (.qj .str (fK l h s)))))
  | _,_,_,_=>bad
 | some (.qj (.sl e) s)=>match mU c t,Rf 0 lo,Rf (V s) hi with
  | some et,some l,some h=>bif bZ c et e then match mx with
    | none=>.val (.W (0<=l/\l<=h/\h<=(V s:Int)) (.ret (some (.qj (.sl e) (jJ l h s)))))
    | some m=>match asInt m with
     | some (_,m)=>bif hi.isSome then .val (.W (0<=l/\l<=h/\h=m/\h<=(V s:Int)) (.ret (some (.tight e (jJ l h s) false))))else bad
     | none=>bad
   else bad
  | _,_,_=>bad
 | some (.tight e s _)=>match mU c t,mx,Rf 0 lo,Rf (V s) hi with
  | some et,none,some l,some h=>bif bZ c et e then .val (.W (0<=l/\l<=h/\h<=(V s:Int)) (.ret (some (.qj (.sl e) (jJ l h s)))))else bad
  | _,_,_,_=>bad
 | some (.ms b vi e off len)=>match mU c t,mx,Rf 0 lo,Rf len hi with
  | some et,none,some l,some h=>bif bZ c et e then .val (.W (0<=l/\l<=h/\h<=(len:Int)) (.ret (some (.ms b vi e (off+l.toNat) (h.toNat-l.toNat)))))else bad
  | _,_,_,_=>bad
 | _=>bad
def ib(k:IntKind)(n:Int):dR:=val (.qj (.int k) n)
def bb(b:Bool):dR:=val (.qj .bool b)
def QH(k:IntKind)(f:BitVec k.bits->BitVec k.bits->BitVec k.bits)(x y:Int):Int:=k.wrap (f (BitVec.ofInt k.bits x) (BitVec.ofInt k.bits y)).toNat
def Za(k:IntKind)(a b:Int):Int:=k.wrap (a*2 ^ (min b.toNat k.bits))
def jk(k:IntKind)(a b:Int):Int:=Int.fdiv a (2 ^ (min b.toNat k.bits))
def Ie(op:BinOp)(k:IntKind)(a b:Int):dR:=match op with
 | .add=>ib k (k.wrap (a+b))
 | .sub=>ib k (k.wrap (a-b))
 | .mul=>ib k (k.wrap (a*b))
 | .quo=>.val (.W (b≠0) (.ret (some (.qj (.int k) (k.wrap (a.tdiv b))))))
 | .rem=>.val (.W (b≠0) (.ret (some (.qj (.int k) (a.tmod b)))))
 | .and=>ib k (QH k (· &&& ·) a b)
 | .or=>ib k (QH k (· ||| ·) a b)
 | .xor=>ib k (QH k (· ^^^ ·) a b)
 | .eql=>bb (a==b)
 | .neq=>bb (a != b)
 | .lss=>bb (decide (a<b))
 | .leq=>bb (decide (a<=b))
 | .gtr=>bb (decide (b<a))
 | .geq=>bb (decide (b<=a))
 | _=>bad
def wL(a b:zx):Bool:=a==b
def strLt(a b:zx):Bool:=Op.bytesLess a b
def cat(a b:zx):zx:=a++b
def Ii(op:BinOp)(a b:zx):dR:=match op with
 | .add=>.val (.W (a.length+b.length<=4611686018427387904) (.ret (some (.qj .str (cat a b)))))
 | .eql=>bb (wL a b)
 | .neq=>bb (!wL a b)
 | .lss=>bb (strLt a b)
 | .leq=>bb (strLt a b||wL a b)
 | .gtr=>bb (!(strLt a b||wL a b))
 | .geq=>bb (!strLt a b)
 | _=>bad
def TX(op:BinOp)(a b:Bool):dR:=match op with
 | .eql=>bb (a==b)
 | .neq=>bb (!(a==b))
 | _=>bad
def Kw:BinOp->Bool
 | .shl | .shr=>true
 | _=>false
def z8K(a:Ty)(t:Nat):Bool:=match a,c.P.underlying t with
 | .int k,some (.int k')=>decide (k=k')
 | .bool,some .bool=>true
 | .str,some .string=>true
 | _,_=>false
def VU:Ty->Nat->List Field->Bool
 | .nil,_,[]=>true
 | .cons a r,off,f::fs=>decide (f.name ≠ "_")&&(zA f.offset off&&(z8K c a f.type&&VU r (off+1) fs))
 | _,_,_=>false
def eqT:(τ:Ty)->den τ->den τ->Bool
 | .int _,(a:Int),(b:Int)=>a==b
 | .bool,(a:Bool),(b:Bool)=>a==b
 | .str,(a:zx),(b:zx)=>wL a b
 | .cons a r,(x:den a×den r),(y:den a×den r)=>eqT a x.1 y.1&&eqT r x.2 y.2
 | _,_,_=>true
def Gk(τ:Ty)(t:Nat):Bool:=match c.P.underlying t with
 | some (.struct fs)=>VU c τ 0 fs.toList&&(!(c.P.stoodInHeld t) && !(c.P.eqGuardType c.P.depth t))
 | _=>false
def TV(op:BinOp)(t:Nat)(x y:Option D):dR:=match x,y with
 | some (.qj τ a),some (.qj σ b)=>match(jR b:Option (den τ))with
  | some b=>bif τ.isAgg&&Gk c τ t then(match op with
   | .eql=>bb (eqT τ a b)
   | .neq=>bb (!eqT τ a b)
   | _=>bad)else bad
  | none=>bad
 | _,_=>bad
def KW(op:BinOp)(t:Nat)(x y:Option D):dR:=match asInt x,asInt y with
 | some (k,a),some (k',b)=>match op with
  | .shl=>.val (.W (0<=b) (.ret (some (.qj (.int k) (Za k a b)))))
  | .shr=>.val (.W (0<=b) (.ret (some (.qj (.int k) (jk k a b)))))
  | op=>bif decide (k=k')then Ie op k a b else bad
 | _,_=>match KU x,KU y with
  | some a,some b=>bif Kw op then bad else Ii op a b
  | _,_=>match c.P.underlying t,asBool x,asBool y with
   | some .bool,some a,some b=>TX op a b
   | _,_,_=>TV c op t x y
def CH(op:BinOp)(t:Nat)(x:Option D):dR:=match c.P.underlying t with
 | some (.interface _)=>match op,x with
  | .eql,some .v8=>bb true
  | .eql,some (.iface _ _)=>bb false
  | .neq,some .v8=>bb false
  | .neq,some (.iface _ _)=>bb true
  | _,_=>bad
 | _=>bad
def Qd(x:Option D)(at':Nat)(ok:Bool):dR:=match c.P.underlying at' with
 | some (.interface _)=>bad
 | none=>bad
 | some _=>match x with
  | some (.iface t d)=>bif zA t at'&&ok then val (.eD [d,.qj .bool true])else bad
  | _=>bad
def CK(op:BinOp)(t:Nat)(x:Option D)(z:dR):dR:=match c.P.underlying t with
 | some (.slice _)=>match op,x with
  | .eql,some .wE=>bb true
  | .eql,some (.sr _ _ b)=>bb (!b)
  | .neq,some .wE=>bb false
  | .neq,some (.sr _ _ b)=>bb b
  | _,_=>z
 | _=>z
def CJ(op:BinOp)(t:Nat)(x:Option D)(z:dR):dR:=match c.P.underlying t with
 | some (.pointer _)=>match op,x with
  | .eql,some .gU=>bb true
  | .eql,some (.ptr _ _)=>bb false
  | .eql,some (.vA _ _)=>bb false
  | .neq,some .gU=>bb false
  | .neq,some (.ptr _ _)=>bb true
  | .neq,some (.vA _ _)=>bb true
  | _,_=>z
 | _=>z
def Ih(op:BinOp)(t:Nat)(p:Operand)(x y:Option D):dR:=match p with
 | .const .nilIface=>CH c op t x
 | .const (.slice none 0 0)=>CK c op t x (KW c op t x y)
 | .const (.pointer none)=>CJ c op t x (KW c op t x y)
 | _=>KW c op t x y
def z3h(op:UnOp)(x:Option D):dR:=match op with
 | .neg=>match asInt x with | some (k,n)=>ib k (k.wrap (0-n)) | none=>bad
 | .not=>match asBool x with | some b=>bb (!b) | none=>bad
 | .xor=>match asInt x with | some (k,n)=>ib k (QH k (· ^^^ ·) (if k.signed then -1 else k.max) n) | none=>bad
 | _=>bad
def byteOf(n:Int):UInt8:=UInt8.ofNat n.toNat
def Fq(e:Ty):D->Option (List (den e))
 | .qj σ y=>jR (a:=σ) (b:=.sl e) y
 | .tight e' y _=>jR (a:=.sl e') (b:=.sl e) y
 | .wE=>some []
 | _=>none
def kA(l:List Int):zx:=l.map byteOf
def UT(e:Nat)(x:Option D):dR:=match c.P.underlying e,x with
 | some (.int .u8),some d=>.rd λst=>(Zb st d).bind λy=>match Fq (.int .u8) y with
  | some l=>.ret (some (.qj .str (kA l)))
  | none=>.fail
 | _,_=>bad
def convertOp(s t:Nat)(x:Option D):dR:=match c.P.underlying s,c.P.underlying t with
 | some (.slice e),some .string=>UT c e x
 | some (.int _),some (.int k)=>match asInt x with | some (_,n)=>ib k (k.wrap n) | none=>bad
 | some .string,some .string=>match KU x with | some s=>val (.qj .str s) | none=>bad
 | _,_=>bad
def z1c(t:Nat)(x:Option D):dR:=match c.P.underlying t with
 | some (.slice _)=>match x with
  | some (.qj (.sl _) l)=>ib .i64 (V l)
  | some (.tight _ l _)=>ib .i64 (V l)
  | some .wE=>ib .i64 0
  | some (.ms _ _ _ _ len)=>ib .i64 (len:Nat)
  | _=>bad
 | some .string=>match KU x with
  | some s=>ib .i64 (V s)
  | none=>bad
 | _=>bad
def ex(e:Ty){e':Ty}(xs:List (den e')):Option (List (den e)):=jR (a:=.sl e') (b:=.sl e) xs
def pg(e:Ty)(l ys:List (den e))(bytes:Nat)(st:St):T (Option D×St) :=
 .W ((l.length+ys.length)*bytes<=140737488355328) (.ret (some (.ms st.length (l.length+ys.length) e 0 (l.length+ys.length)),st++[.arr (l.length+ys.length) e (l++ys)]))
def bj(e:Ty)(s:D)(ys:List (den e))(ne:Bool)(bytes:Nat)(st:St):T (Option D×St):=match s with
 | .wE=>bif ne then pg e [] ys bytes st else .ite ys.isEmpty (.ret (some s,st)) (pg e [] ys bytes st)
 | .tight e' l _=>match ex e l with
  | some l=>bif ne then pg e l ys bytes st else .ite ys.isEmpty (.ret (some s,st)) (pg e l ys bytes st)
  | none=>.fail
 | .sr e' l b=>match ex e l with
  | some []=>bif b then .W (ys.length*bytes<=140737488355328) (.ret (some (.sr e ys true),st))else .fail
  | _=>.fail
 | .ms b vi e' off len=>match st[b]? with
  | some (.arr dD e'' xs)=>match ex e xs with
   | some xs=>bif decide (e'=e)then .W (vi=dD/\off=0/\len=xs.length/\(xs.length+ys.length)*bytes<=140737488355328)
     (.ret (some (.ms b (vi+ys.length) e 0 (len+ys.length)),st.set b (.arr (vi+ys.length) e (xs++ys))))else .fail
   | none=>.fail
  | _=>.fail
 | _=>.fail
def zeroOf(et:Nat)(e:Ty):Option (den e):=match K4 c et with | some z=>ox e z | none=>none
def QF(t:Nat)(s x:Option D):dR:=match mU c t with
 | none=>bad
 | some et=>match Gr c 20 et,pH c et with
  | some e,some bytes=>bif bZ c et e&&zI 0 e.size&&zI 0 bytes&&(zeroOf c et e).isSome then match s,x with
    | some s,some x=>.wr λst=>(Zb st x).bind λx=>match x with
     | .qj _ y=>match(jR y:Option (den (.sl e)))with
      | some ys=>bj e s ys false bytes st
      | none=>.fail
     | .tight _ y ne=>match ex e y with
      | some ys=>bj e s ys ne bytes st
      | none=>.fail
     | .wE=>bj e s [] false bytes st
     | _=>.fail
    | _,_=>bad
   else bad
  | _,_=>bad
def bytesOf(s:zx):List Int:=s.map λb=>((b.toNat:Nat):Int)
def tJ(t t':Nat)(s x:Option D):dR:=match mU c t with
 | none=>bad
 | some et=>match Gr c 20 et,pH c et,c.P.underlying t' with
  | some (.int .u8),some bytes,some .string=>bif bZ c et (.int .u8)&&zI 0 bytes&&(zeroOf c et (.int .u8)).isSome then match s,x with
    | some s,some (.qj .str l)=>.wr λst=>bj (.int .u8) s (bytesOf l) false bytes st
    | _,_=>bad
   else bad
  | _,_,_=>bad
def L8(t:Nat)(n m:Option D):dR:=match mU c t,asInt n,asInt m with
 | some et,some (_,n),some (_,m)=>match Gr c 20 et,pH c et with
  | some e,some bytes=>match zeroOf c et e with
   | some z=>bif bZ c et e&&zI 0 e.size then
     .wr λst=>.W (0<=n/\n<=m/\m*bytes<=140737488355328/\m<=140737488355328) (.ret (some (.ms st.length n.toNat e 0 n.toNat),st++[.arr n.toNat e (List.replicate n.toNat z)]))
    else bad
   | none=>bad
  | _,_=>bad
 | _,_,_=>bad
def HF(e:Ty):Nat->List (Nat×Option D)->Option (List (den e))
 | _,[]=>some []
 | i,(j,some d)::r=>bif zA i j then match ox e d,HF e (i+1) r with
   | some x,some l=>some (x::l)
   | _,_=>none
  else none
 | _,_=>none
def bO(t n:Nat)(ps:List (Nat×Option D)):dR:=match mU c t with
 | none=>bad
 | some et=>match Gr c 20 et with
  | some e=>bif bZ c et e&&zA n ps.length&&zJ n 1000&&zJ e.size 100&&(zeroOf c et e).isSome then match HF e 0 ps with
    | some l=>bif zA n 0&&zI 0 e.size then .wr λst=>.ret (some (.ms st.length 0 e 0 0),st++[.arr 0 e []])else val (.tight e l (!zA n 0))
    | none=>bad
   else bad
  | none=>bad
def VB(t:Nat)(z:dR):dR:=match mU c t with
 | none=>z
 | some et=>match Gr c 20 et with
  | some e=>bif bZ c et e&&(zeroOf c et e).isSome then val (.sr e [] true)else z
  | none=>z
def rQ(places:List (Nat×Nat)):List (Nat×Option D)->List D->Option (List D)
 | [],cells=>some cells
 | (i,some d)::r,cells=>match places[i]? with
  | some (off,n)=>bif !d.bz&&zA n (xx d).length&&zJ (off+n) cells.length then
     rQ places r (cells.take off++xx d++cells.drop (off+n))else none
  | none=>none
 | _,_=>none
def BY(t:Nat)(ps:List (Nat×Option D)):dR:=match c.P.underlying t with
 | some (.struct fs)=>match K4 c t,fs.toList.mapM (λf=>(c.P.info? f.type).map λi=>(f.offset,i.size))with
  | some (.agg z),some places=>match rQ places ps z with
   | some l=>val (.agg l)
   | none=>bad
  | _,_=>bad
 | some (.array k e)=>match K4 c t,c.P.info? e with
  | some (.agg z),some ie=>match rQ ((List.range k).map λi=>(i*ie.size,ie.size)) ps z with
   | some l=>val (.agg l)
   | none=>bad
  | _,_=>bad
 | _=>bad
def J1(x:Option D)(i:Nat):dR:=match x with
 | some (.eD vs)=>z8v vs[i]?
 | _=>bad
def eL:List D->D
 | [d]=>d
 | ds=>.eD ds
def Ty.scalar:Ty->Bool
 | .int _ | .bool | .str=>true
 | .cons a b=>a.scalar&&b.scalar
 | .nil=>true
 | _=>false
def Wf:D->Bool
 | .qj τ _=>τ.scalar
 | _=>false
def Qj(st:St)(τ:Ty):D->T D
 | .vA _ x=>match(jR x:Option (den τ))with | some y=>.ret (.vA τ y) | none=>.fail
 | .ptr b off=>match st[b]? with
  | some (.var d)=>match bif zA off 0 then ox τ d else none with | some y=>.ret (.vA τ y) | none=>.fail
  | _=>.fail
 | _=>.fail
def QM(st:St):UO->D->T D
 | .im τ,d=>(VF st τ d).bind λx=>.ret (.qj τ x)
 | .rp τ,d=>Qj st τ d
def my(st:St):List UO->List D->T (List D)
 | [],[]=>.ret []
 | p::r,d::ds=>(QM st p d).bind λx=>(my st r ds).bind λl=>.ret (x::l)
 | _,_=>.fail
def DV(st:St):Vt->D->T D
 | .ty τ,d=>(VF st τ d).bind λx=>.ret (.qj τ x)
 | .rp τ,d=>Qj st τ d
 | .wh f caps,.wh f' l=>bif zA f f' then(my st caps l).bind λl=>.ret (.wh f l)else .fail
 | _,_=>.fail
def Qi(st:St):List Vt->List D->T (List D)
 | [],[]=>.ret []
 | p::r,d::ds=>(DV st p d).bind λx=>(Qi st r ds).bind λl=>.ret (x::l)
 | _,_=>.fail
def zbT:D->Bool | .ptr .. => true | _=>false
def Jh:D->Bool
 | .agg cs=>cs.any U1
 | .wh _ l=>l.any λd=>U1 d||zbT d
 | .ptr .. => true
 | d=>U1 d
def z2P(r:GC×St):T (Option D):=match r with
 | (.ret ds,[])=>.ret (some (eL ds))
 | _=>.fail
def Wc(r:GC×St):T (Option D):=match r with
 | (.ret ds,[])=>bif ds.all Wf then .ret (some (eL ds))else .fail
 | _=>.fail
def en(g:Nat)(s:Sig)(args:List D):dR :=
 bif !(args.any Jh)then .val ((Qi [] s.params args).bind λl=>(c.fn g l []).bind z2P)
 else .rd λst=>(Qi st s.params args).bind λl=>(c.fn g l []).bind Wc
def sA(g:Nat)(args:List D):dR:=.wr λst=>(c.fn g args st).bind λr=>match r.1 with
 | .ret ds=>.ret (some (eL ds),r.2)
 | .hZ _=>.fail
def ea(g:Nat):Nat:=bif zJ 1000000 g then g % 1000000 else g
def bH{α:Type}(g:Nat)(l caps:List α):List α:=bif zJ 1000000 g then caps++l else l++caps
def eO(f:Option D)(args:List (Option D)):dR:=match f,gA args with
 | some (.wh g caps),some l=>match c.sig (ea g) (bH g l caps)with
  | some s=>en c (ea g) s (bH g l caps)
  | none=>sA c (ea g) (bH g l caps)
 | _,_=>bad
def ZP(a b:Int):Int:=if b<a then b else a
def lh(a b:Int):Int:=if a<b then b else a
def YN(f:Int->Int->Int)(args:List (Option D)):dR:=match args with
 | [x,y]=>match asInt x,asInt y with
  | some (k,a),some (k',b)=>bif decide (k=k')then ib k (f a b)else bad
  | _,_=>bad
 | _=>bad
def yr{α:Type}(off len:Nat)(xs l:List α):List α:=xs.take off++l.take len++xs.drop (off+min len l.length)
def TN(k:IntKind)(b vi off len:Nat)(l:List Int)(st:St):T (Option D×St):=match st[b]? with
 | some (.arr dD e' xs)=>match ex (.int k) xs with
  | some xs=>.W (vi=dD/\off+len<=V xs) (.ret (some (.qj i64 ((min len l.length:Nat):Int)),st.set b (.arr dD (.int k) (yr off len xs l))))
  | none=>.fail
 | _=>.fail
def Ix(t:Nat)(s x:Option D):dR:=match mU c t with
 | some et=>match c.P.underlying et,te c et,s,x with
  | some (.int k),some 1,some (.ms b vi (.int k') off len),some d=>bif decide (k'=k)then .wr λst=>(Zb st d).bind λy=>match Fq (.int k) y with
    | some l=>TN k b vi off len l st
    | none=>.fail
   else bad
  | _,_,_,_=>bad
 | none=>bad
def lJ(b:Builtin)(ts:List Nat)(args:List (Option D)):dR:=match b,ts,args with
 | .len,t::_,x::_=>z1c c t x
 | .append,[t,t'],[s,x]=>bif zA t t' then QF c t s x else tJ c t t' s x
 | .copy,[t,_],[s,x]=>Ix c t s x
 | .min,_,args=>YN ZP args
 | .max,_,args=>YN lh args
 | _,_,_=>bad
def bq(fr:Fr):Operand->Option D
 | .tmp t=>fr.get t
 | .const v=>JO v
 | .global _=>none
 | .func f=>bif zI f 1000000 then some (.wh f [])else none
def Vb(x:Option D):dR:=match x with
 | some (.ptr b o)=>val (.ptr b o)
 | some (.vA τ x)=>val (.vA τ x)
 | some (.gG b v e i o)=>val (.gG b v e i o)
 | some (.wh f l)=>val (.wh f l)
 | _=>bad
def Lq(x a b:Option D):dR:=match asBool x with
 | some x=>.val (.ite x (.ret a) (.ret b))
 | none=>bad
def Xc(t:Nat)(x:Option D):dR:=match c.P.underlying t with
 | some (.interface _) | none=>bad
 | some _=>match x with | some d=>val (.iface t d) | none=>bad
def Tz(x:Option D):dR:=match x with
 | some d=>bif d.bz||d.typed.isSome then bad else .wr λst=>.ret (some (.ptr st.length 0),st++[.var d])
 | none=>bad
def TA(t:Nat)(x:Option D):dR:=match x with
 | some (.qj τ x)=>val (.vA τ x)
 | some d=>match Gr c 20 t with
  | some τ=>match ox τ d with | some x=>val (.vA τ x) | none=>bad
  | none=>bad
 | none=>bad
def z2Q:Option Nat->Bool
 | some s=>c.ro s
 | none=>false
def Tx(t:Nat)(dst:Option Nat)(x:Option D):dR:=bif z2Q c dst then TA c t x else Tz x
def ow(t:Nat):dR:=match K4 c t with
 | some d=>.wr λst=>.ret (some (.ptr st.length 0),st++[.var d])
 | none=>bad
def Yn:IntKind->Bool
 | .i64=>true
 | _=>false
def EF(t:Nat):Bool:=match c.P.underlying t with
 | some (.map k e)=>(match c.P.underlying k with | some (.int q)=>Yn q | _=>false)&&(match c.P.underlying e with | some .bool=>true | _=>false)&&(match c.P.info? e with | some i=>(match i.zero with | some (.bool z) => !z | _=>false) | none=>false)
 | _=>false
def wfI(n:Int):Prop:=(Lit.int .i64 n).wf=true
def z2a(y:Bool)(n:Int)(l:List Int):Prop:=y=true/\wfI n/\l.length<4294967296
def Jd(t:Nat)(r:Option Operand):dR:=bif EF c t&&r.isNone then .wr λst=>.ret (some (.yL st.length),st++[.var (.Bg [])])else bad
def YG(t:Nat)(ok:Bool)(m x:Option D):dR:=bif EF c t && !ok then match m,asInt x with
 | some (.yL b),some (q,n)=>bif Yn q then .rd λst=>match st[b]? with
  | some (.var (.Bg l))=>.W (wfI n) (.ret (some (.qj .bool (l.contains n))))
  | _=>.fail
  else bad
 | some .uT,some (q,n)=>bif Yn q then .val (.W (wfI n) (.ret (some (.qj .bool false))))else bad
 | _,_=>bad
 else bad
def YJ(t:Nat)(m x v:Option D):dR:=bif EF c t then match m,asInt x,asBool v with
 | some (.yL b),some (q,n),some y=>bif Yn q then .wr λst=>match st[b]? with
  | some (.var (.Bg l))=>.W (z2a y n l) (.ret (none,st.set b (.var (.Bg (l++[n])))))
  | _=>.fail
  else bad
 | _,_,_=>bad
 else bad
def wP(ρ:Operand->Option D)(o:Oper):dR:=match o.op with
 | .move x | .assign x=>.val (.ret (ρ x))
 | .pick x a b=>Lq (ρ x) (ρ a) (ρ b)
 | .alloc t=>ow c t
 | .box t x=>Tx c t o.dst (ρ x)
 | .load t a=>WZ c t (ρ a)
 | .store t a v=>KI c t (ρ a) (ρ v)
 | .nilCheck x=>Vb (ρ x)
 | .binOp op t x y _=>Ih c op t y (ρ x) (ρ y)
 | .typeAssert x _ t ok=>Qd c (ρ x) t ok
 | .unOp op _ x=>z3h op (ρ x)
 | .convert s t x=>convertOp c s t (ρ x)
 | .makeInterface t x=>Xc c t (ρ x)
 | .makeMap t r=>Jd c t r
 | .lookup t m x ok=>YG c t ok (ρ m) (ρ x)
 | .mapUpdate t m x v=>YJ c t (ρ m) (ρ x) (ρ v)
 | .makeFunc (.func f) first cap=>bif zA first.size 0&&zI f 1000000 then match gA (cap.toList.map ρ)with | some l=>val (.wh f l) | none=>bad
   else bif zA cap.size 0&&zI f 1000000 then match gA (first.toList.map ρ)with | some l=>val (.wh (f+1000000) l) | none=>bad else bad
 | .makeSlice t l m=>L8 c t (ρ l) (ρ m)
 | .slice t x lo hi mx=>D2 c t (ρ x) (lo.map ρ) (hi.map ρ) (mx.map ρ)
 | .fieldAddr s x f=>QZ c s f (ρ x)
 | .field s x f=>Ce c s f (ρ x)
 | .indexAddr t x i=>X3 c t (ρ x) (ρ i)
 | .index t x i=>Ct c t (ρ x) (ρ i)
 | .extract x i=>J1 (ρ x) i
 | .build t ps=>BY c t (ps.toList.map λp=>(p.1,ρ p.2))
 | .buildSlice t n ps=>bif z2Q c o.dst&&zA n 0&&zA ps.size 0 then VB c t (bO c t n (ps.toList.map λp=>(p.1,ρ p.2)))else bO c t n (ps.toList.map λp=>(p.1,ρ p.2))
 | .call cl=>match cl.callee with
  | .builtin b=>lJ c b cl.argTypes.toList (cl.args.toList.map ρ)
  | .value f=>eO c (ρ f) (cl.args.toList.map ρ)
  | .invoke _ _=>bad
 | _=>bad
def qu:dR->St->T (Option D×St)
 | .val t,st=>t.bind λd=>.ret (d,st)
 | .rd k,st=>(k st).bind λd=>.ret (d,st)
 | .wr k,st=>k st
end ops
end Go.AM
namespace Go.AM
def dR.kind:dR->Nat
 | .val _=>0
 | .rd _=>1
 | .wr _=>2
def bw(ops:Array Oper)(j:Nat):Option Nat:=match ops[j]? with | some o=>o.dst | none=>none
def SS:D:=.eD []
def ga(n:Nat):Option Nat->Bool
 | some t=>zI t n
 | none=>true
section
variable (c:Ctx)
variable [Wm]
def ry(kn:Kn):Operand->Option Bool
 | .tmp t=>kn.get t
 | .const (.bool b)=>some b
 | _=>none
def H3(kn:Kn):Op->Option Bool
 | .move x | .assign x=>ry kn x
 | .pick x a b=>match ry kn x with
  | some true=>ry kn a
  | some false=>ry kn b
  | none=>none
 | _=>none
def Qo(kn:Kn)(fr:Fr)(o:Oper):dR:=match o.op with
 | .pick x a b=>match ry kn x with
  | some true=>.val (.ret (bq fr a))
  | some false=>.val (.ret (bq fr b))
  | none=>wP c (bq fr) o
 | _=>wP c (bq fr) o
def H9(kn:Kn)(dst:Option Nat)(b:Option Bool):Kn:=match dst with | some t=>(t,b)::kn | none=>kn
inductive RK where
 | z (k:Nat) | rd (b:Nat) | wr (free:List Nat) | up (b:Nat) | wc (l:List Nat) | al (free:List Nat)
def RK.base:RK->Nat
 | .z k=>k
 | .rd _=>1
 | .wr _=>2
 | .up _=>2
 | .wc _=>2
 | .al _=>2
def others(n:Nat)(l:List Nat):List Nat:=(List.range n).filter λb => !(l.any (zA b))
def zcS(d:Option D):Option Nat:=match d with
 | some d=>match d with
  | .ptr b _=>some b
  | .gG b _ _ _ _=>some b
  | _=>none
 | none=>none
def HO(bi:Builtin)(l:List (Option D))(st:St):RK:=match bi with
 | .append=>match l with | [some (.ms b _ _ _ _),some x]=>bif U1 x then .z 2 else .up b | [some .wE,some x]=>bif U1 x then .z 2 else .wr (others st.length []) | _=>.z 2
 | _=>.z 2
def vv(ρ:Operand->Option D)(st:St)(o:Oper):RK:=match(wP c ρ o).kind with
 | 1=>match o.op with
  | .load _ a=>match zcS (ρ a)with | some b=>.rd b | none=>.z 1
  | _=>.z 1
 | 2=>match o.op with
  | .alloc _=>.al (others st.length [])
  | .store _ a _=>match zcS (ρ a)with | some b=>.up b | none=>.z 2
  | .call cl=>match cl.callee with
   | .value f=>match ρ f,gA (cl.args.toList.map ρ)with | some (.wh g caps),some l=>(match c.Qt (ea g) (bH g l caps)with | some oE=>.wc oE | none=>.wr (c.free (ea g) (bH g l caps) st)) | _,_=>.z 2
   | .builtin bi=>HO bi (cl.args.toList.map ρ) st
   | _=>.z 2
  | _=>.z 2
 | k=>.z k
structure oq where
 fr:Fr
 kn:Kn
 st:St
 ks:List Nat      -- kinds of what has run,the last first
 bk:List RK
def l0(n:Nat)(o:Oper)(s:oq):T oq :=
 bif ga n o.dst then
  let cl:=Qo c s.kn s.fr o
  (qu cl s.st).bind λr=>.ret ⟨s.fr.put o.dst r.1,H9 s.kn o.dst (H3 s.kn o.op),r.2,cl.kind::s.ks,vv c (bq s.fr) s.st o::s.bk⟩
 else .fail
def cG(o:Oper)(s:oq):oq:=⟨s.fr.put o.dst (some SS),H9 s.kn o.dst none,s.st,0::s.ks,.z 0::s.bk⟩
def oq.lg(s:oq)(t:Nat)(b:Bool):oq:={ s with kn:=(t,some b)::s.kn }
def stepG(n:Nat)(ops:Array Oper)(o:Oper)(s:oq):T oq:=match o.guard with
 | none=>l0 c n o s
 | some (j,want)=>match bw ops j with
  | none=>.fail
  | some t=>match s.kn.get t with
   | some b=>bif b==want then l0 c n o s else bif ga n o.dst then .ret (cG o s)else .fail
   | none=>match s.fr.get t with
    | some (.qj .bool x)=>bif ga n o.dst then
      .ite x (bif want then l0 c n o (s.lg t true)else .ret (cG o (s.lg t true)))
          (bif want then .ret (cG o (s.lg t false))else l0 c n o (s.lg t false))
     else .fail
    | some (.eD [])=>bif ga n o.dst then .ret (cG o s)else .fail
    | _=>.fail
def tA(n:Nat)(ops:Array Oper):List Oper->oq->T oq
 | [],s=>.ret s
 | o::l,s=>(stepG c n ops o s).bind λs'=>tA n ops l s'
def tmpsOf(ops:Array Oper)(o:Oper):List Nat :=
 (match o.dst with | some d=>[d] | none=>[]) ++
 (match o.guard with | some (j,_)=>(match bw ops j with | some s=>[s] | none=>[]) | none=>[]) ++
 o.op.operands.toList.filterMap λ| .tmp t=>some t | _=>none
def vW(l:List Oper):List Nat->List Nat
 | acc=>match l with
  | []=>acc
  | o::r=>vW r (acc++[o.after.toList.foldl (λs e=>bif Region.binds .any e then s ||| 2 ^ e.on ||| acc.getD e.on 0 else s) 0])
def ordered(bs:List Nat)(i j:Nat):Bool:=Nat.testBit (bs.getD j 0) i
def bM(k l:Nat):Bool:=(zA k 2 && !zA l 0)||(zA l 2 && !zA k 0)
def Lp{K:Type}(cl:K->K->Bool)(bs:List Nat)(xs:List (Nat×Option Nat×List Nat×K))(j:Nat)(dj:Option Nat)(tj:List Nat)(kj:K):Bool :=
 xs.all λx=>ordered bs x.1 j||(!(match x.2.1 with | some d=>tj.contains d | none=>false) && !(match dj with | some d=>x.2.2.1.contains d | none=>false) && !cl x.2.2.2 kj)
def Q0{K:Type}(cl:K->K->Bool)(ops:Array Oper)(bs:List Nat):List Oper->List K->Nat->List (Nat×Option Nat×List Nat×K)->Bool
 | [],_,_,_=>true
 | o::l,k::ks,j,xs=>let tj:=tmpsOf ops o; Lp cl bs xs j o.dst tj k&&Q0 cl ops bs l ks (j+1) ((j,o.dst,tj,k)::xs)
 | _,_,_,_=>false
def fX:List Oper->Nat->Bool
 | [],_=>true
 | o::l,j=>o.after.toList.all (λe => !Region.binds .any e||zI e.on j)&&fX l (j+1)
def Mz(ops:Array Oper)(ks:List Nat):Bool :=
 let l:=ops.toList
 fX l 0&&Q0 bM ops (vW l []) l ks 0 []
def Kc(o:Oper):Bool:=(match o.op with | .alloc _=>true | _=>false)&&o.guard.isNone&&o.dst.isSome
def Yw:List Oper->List Nat->List Nat
 | o::l,k::ks=>(bif Kc o then 3 else k)::Yw l ks
 | _,_=>[]
def QL(k l:Nat):Bool:=bif zA k 3&&zA l 3 then false else bM (bif zA k 3 then 2 else k) (bif zA l 3 then 2 else l)
def KP:List Oper->Nat->List Nat
 | [],_=>[]
 | o::l,i=>bif Kc o then i::KP l (i+1)else KP l (i+1)
def DD(bs al:List Nat)(n:Nat):Bool:=(List.range n).all λj => !(al.any λp=>ordered bs p j)||al.all λp=>ordered bs p j
def MA(ops:Array Oper)(ks:List Nat):Bool :=
 let l:=ops.toList
 fX l 0&&(ks.all λk=>zJ k 2)&&Q0 QL ops (vW l []) l (Yw l ks) 0 []&&DD (vW l []) (KP l 0) l.length
def yE:RK->RK->Bool
 | .rd b,.wr A => !(A.any (zA b))
 | .wr A,.rd b => !(A.any (zA b))
 | .rd b,.al A => !(A.any (zA b))
 | .al A,.rd b => !(A.any (zA b))
 | .rd b,.wc oE=>oE.any (zA b)
 | .wc oE,.rd b=>oE.any (zA b)
 | .wc _,.al _=>false
 | .rd b,.up a=>zA a b
 | .up a,.rd b=>zA a b
 | .up a,.up b=>zA a b
 | x,y=>bM x.base y.base
def MB(ops:Array Oper)(ks:List RK):Bool :=
 let l:=ops.toList
 fX l 0&&Q0 yE ops (vW l []) l ks 0 []
def WT(ops:Array Oper)(ks:List Nat)(bk:List RK):Bool:=Mz ops ks||MA ops ks||MB ops bk
def pC(n:Nat)(ops:Array Oper)(draw:Bool)(fr:Fr)(kn:Kn)(st:St):T oq :=
 (tA c n ops ops.toList ⟨fr,kn,st,[],[]⟩).bind λs=>bif !draw||WT ops s.ks.reverse s.bk.reverse then .ret s else .fail
def yq:List D->Nat->Fr
 | [],_=>[]
 | d::r,i=>(i,some d)::yq r (i+1)
def nq(fr:Fr)(st:St):List ResultVar->T (List D)
 | []=>.ret []
 | .tmp t::r=>match fr.get t with
  | some d=>(nq fr st r).bind λl=>.ret (d::l)
  | none=>.fail
 | .cell a t::r=>match fr.get a with
  | some (.ptr b off)=>match st[b]? with
   | some (.var d)=>bif d.Yo then .fail else match LP c t d off with
    | some x=>(nq fr st r).bind λl=>.ret (x::l)
    | none=>.fail
   | _=>.fail
  | _=>.fail
def yc(n:Nat):D->Bool
 | .ptr b _=>zI b n
 | .ed b _=>zI b n
 | .yL b=>zI b n
 | .gG b .. => zI b n
 | .ms b .. => zI b n
 | .wh .. | .agg _ | .eD _ | .iface .. => false
 | _=>true
def fJ(n:Nat):D->Bool
 | .wh _ l=>l.all (yc n)
 | .agg l=>l.all (yc n)
 | .iface _ d=>yc n d
 | d=>yc n d
def C2(n:Nat):cJ->Bool
 | .var d=>fJ n d
 | _=>true
end
end Go.AM
namespace Go.AM
open Go.RowKit
inductive Rc(w:World)(ok:Nat->Prop):(τ:Ty)->den τ->List Value->Prop
 | int (k:IntKind) (n:Int):Rc w ok (.int k) n [.int k n]
 | bool (b:Bool):Rc w ok .bool b [.bool b]
 | str (s:zx):Rc w ok .str s [.string ⟨s.toArray⟩]
 | lB (e:Ty) (a:Option Addr):Rc w ok (.sl e) ([]:List (den e)) [.slice a 0 0]
 | sl (e:Ty) (l:List (den e)) (blk off cap:Nat) (f:Nat->List Value) (j3:ok blk) (jg:l.length<=cap)
   (h:∀ i (hi:i<l.length),Rc w ok e l[i] (f i))
   (hc:∀ i,i<l.length->∀ j v,(f i)[j]? = some v->w.cell? ⟨blk,off+i*e.size+j,none⟩=some v) :
   Rc w ok (.sl e) l [.slice (some ⟨blk,off,none⟩) l.length cap]
 | nil:Rc w ok .nil () []
 | cons (a b:Ty) (x:den a) (y:den b) (c1 c2:List Value) (h1:Rc w ok a x c1) (M:Rc w ok b y c2):Rc w ok (.cons a b) (x,y) (c1++c2)
 | expr (k:Int) (n:den Bn) (s:zx) (l:List Expr) (cs:List Value) (h:Rc w ok Jy (k,n,s,l,()) cs):Rc w ok .expr (.mk k n s l) cs
def I3(w w':World)(ok JQ:Nat->Prop):Prop:=∀ k,ok k->JQ k/\w'.heap[k]? = w.heap[k]?
theorem lK{w w':World}{a:Addr}(h:w'.heap[a.block]? = w.heap[a.block]?):w'.cell? a=w.cell? a:=by simp[World.cell?,h]
section
variable {w w':World} {ok JQ:Nat->Prop}
theorem Rc.mono{τ:Ty}{x:den τ}{cs:List Value}(hs:I3 w w' ok JQ)(h:Rc w ok τ x cs):Rc w' JQ τ x cs:=by
 induction h with
 | int k n=>exact .int k n
 | bool b=>exact .bool b
 | str s=>exact .str s
 | lB e a=>exact .lB e a
 | sl e l blk off cap f j3 jg h hc ih=>exact .sl e l blk off cap f (hs _ j3).1 jg ih λi hi j v hv=>by rw[lK (hs _ j3).2]; exact hc i hi j v hv
 | nil=>exact .nil
 | cons a b x y c1 c2 h1 M i1 i2=>exact .cons a b x y c1 c2 i1 i2
 | expr k n s l cs h ih=>exact .expr k n s l cs ih
theorem Rc.len{τ:Ty}{x:den τ}{cs:List Value}(h:Rc w ok τ x cs):cs.length=τ.size:=by
 induction h with
 | cons a b x y c1 c2 h1 M i1 i2=>simp[Ty.size,i1,i2]
 | expr k n s l cs h ih=>simpa[Ty.size]using ih
 | _=>rfl
theorem Rc.one{τ:Ty}{x:den τ}{cs:List Value}(h:Rc w ok τ x cs):∀ v∈cs,v.oneCell'=true:=by
 induction h with
 | cons a b x y c1 c2 h1 M i1 i2=>grind
 | expr k n s l cs h ih=>exact ih
 | _=>intro v hv; simp at hv; try (subst hv; rfl)
theorem Rc.dM{k:IntKind}{n:Int}{cs:List Value}(h:Rc w ok (.int k) n cs):cs=[.int k n]:=by cases h; rfl
theorem Rc.cp{n:Bool}{cs:List Value}(h:Rc w ok .bool n cs):cs=[.bool n]:=by cases h; rfl
theorem Rc.jc{n:zx}{cs:List Value}(h:Rc w ok .str n cs):cs=[.string ⟨n.toArray⟩]:=by cases h; rfl
theorem Rc.cons_inv{a b:Ty}{x:den (.cons a b)}{cs:List Value}(h:Rc w ok (.cons a b) x cs):∃ c1 c2,cs=c1++c2/\Rc w ok a x.1 c1/\Rc w ok b x.2 c2:=by
 cases h with | cons _ _ x y c1 c2 h1 M=>exact⟨c1,c2,rfl,h1,M⟩
theorem Rc.wb{x:den .nil}{cs:List Value}(h:Rc w ok .nil x cs):cs=[]:=by cases h; rfl
theorem Rc.Ea{x:Expr}{cs:List Value}(h:Rc w ok .expr x cs):Rc w ok Jy x.z02 cs:=by cases h with | expr k n s l cs h=>exact h
theorem Rc.tB{e:Ty}{l:List (den e)}{cs:List Value}(h:Rc w ok (.sl e) l cs):(l=[]/\∃ a,cs=[.slice a 0 0]) \/
  ∃ (blk off cap:Nat) (f:Nat->List Value),cs=[.slice (some ⟨blk,off,none⟩) l.length cap]/\ok blk/\l.length<=cap/\(∀ i (hi:i<l.length),Rc w ok e l[i] (f i)) /\
   (∀ i,i<l.length->∀ j v,(f i)[j]? = some v->w.cell? ⟨blk,off+i*e.size+j,none⟩=some v):=by
 cases h with
 | lB _ a=>simp
 | sl _ _ blk off cap f j3 jg h hc=>exact .inr ⟨blk,off,cap,f,rfl,j3,jg,h,hc⟩
end
def pk(τ:Ty)(cs:List Value):Value:=if τ.isAgg then .agg cs.toArray else cs.headD undef
structure KS where
 w:World
 ok:Nat->Prop
 ph:List (Option (Nat×Nat))
 st:St
def Mf(ph:List (Option (Nat×Nat)))(b znI:Nat)(e:Ty)(off len:Nat)(v:Value):Prop :=
 off+len<=znI/\((len=0/\off=0/\v=.slice none 0 0/\ph[b]? = some none) \/
  ∃ (blk n o cap:Nat),ph[b]? = some (some (blk,n))/\v=.slice (some ⟨blk,o,none⟩) len cap/\len<=cap/\(off+cap)*e.size<=n/\(cap=0\/o=off*e.size))
def Old(st:St)(b vi:Nat):Prop:=st[b]? = some .dead\/∃ (v0:Nat) (e0:Ty) (Vq:List (den e0)),st[b]? = some (.arr v0 e0 Vq)/\vi<=v0
def D.one:D->Bool
 | .qj τ _ => !τ.isAgg
 | .agg _ | .eD _=>false
 | _=>true
def Qx(f:Nat)(vs:List Value):Value:=bif zJ 1000000 f then .func (.func (f % 1000000)) vs.toArray #[]else .func (.func f) #[] vs.toArray
theorem C1{f:Nat}(h:zI f 1000000=true)(vs:List Value):Qx f vs=.func (.func f) #[] vs.toArray:=by
 have:zJ 1000000 f=false:=by
  cases I:zJ 1000000 f with
  | false=>rfl
  | true=>have h1:=zK I; have M:=zK h; omega
 unfold Qx; rw[this]; rfl
theorem Is{f:Nat}(h:zI f 1000000=true)(vs:List Value):Qx (f+1000000) vs=.func (.func f) vs.toArray #[]:=by
 have h1:zJ 1000000 (f+1000000)=true:=Nat.ble_eq_true_of_le (Z)
 have M:=zK h
 have h3:(f+1000000) % 1000000=f:=Z
 unfold Qx; rw[h1,h3]; rfl
theorem Y3(f:Nat)(vs:List Value):(Qx f vs).cells.toList=[Qx f vs]:=by
 unfold Qx; cases zJ 1000000 f<;>rfl
theorem TF(f:Nat)(vs:List Value):(Qx f vs).oneCell'=true:=by
 unfold Qx; cases zJ 1000000 f<;>rfl
theorem Y2(f:Nat)(vs:List Value):∃ g a b,Qx f vs=.func (.func g) a b:=by
 unfold Qx; cases zJ 1000000 f<;>exact⟨_,_,_,rfl⟩
inductive RD(O:KS):D->Value->Prop
 | qj (τ:Ty) (x:den τ) (cs:List Value) (h:Rc O.w O.ok τ x cs):RD O (.qj τ x) (pk τ cs)
 | vz (e:Ty) (a:Option Addr):RD O (.tight e ([]:List (den e)) false) (.slice a 0 0)
 | tight (e:Ty) (l:List (den e)) (ne:Bool) (blk off:Nat) (f:Nat->List Value) (kf:ne=true->l≠[]) (j3:O.ok blk)
   (h:∀ i (hi:i<l.length),Rc O.w O.ok e l[i] (f i))
   (hc:∀ i,i<l.length->∀ j v,(f i)[j]? = some v->O.w.cell? ⟨blk,off+i*e.size+j,none⟩=some v) :
   RD O (.tight e l ne) (.slice (some ⟨blk,off,none⟩) l.length l.length)
 | sr (e:Ty) (l:List (den e)) (b:Bool) (v:Value) (h:Rc O.w O.ok (.sl e) l [v]) (ht:b=true->∃ blk off cap,v=.slice (some ⟨blk,off,none⟩) l.length cap/\(l=[]->cap=0)) (hf:b=false->v=.slice none 0 0):RD O (.sr e l b) v
 | wE:RD O .wE (.slice none 0 0)
 | gU:RD O .gU (.pointer none)
 | v8:RD O .v8 .nilIface
 | gj:RD O .gj .nilFunc
 | uT:RD O .uT (.map none)
 | WH (v:Value) (h:v.oneCell'=true):RD O .WH v
 | mP (T:Nat):RD O (.mP T) (.pointer none)
 | yL (b blk n:Nat) (d:D) (J:O.st[b]? = some (.var d)) (h:O.ph[b]? = some (some (blk,n))):RD O (.yL b) (.map (some blk))
 | nn (b T:Nat) (d:D) (J:O.st[b]? = some (.var d)):RD O (.ed b T) (.pointer none)
 | np (b T blk n:Nat) (d:D) (J:O.st[b]? = some (.var d)) (h:O.ph[b]? = some (some (blk,n))):RD O (.ed b T) (.pointer (some ⟨blk,0,none⟩))
 | ptr (b off blk n:Nat) (d:D) (J:O.st[b]? = some (.var d)) (h:O.ph[b]? = some (some (blk,n))):RD O (.ptr b off) (.pointer (some ⟨blk,off,none⟩))
 | vA (τ:Ty) (x:den τ) (cs:List Value) (blk off:Nat) (j3:O.ok blk) (h:Rc O.w O.ok τ x cs)
   (hc:∀ j v,cs[j]? = some v->O.w.cell? ⟨blk,off+j,none⟩=some v):RD O (.vA τ x) (.pointer (some ⟨blk,off,none⟩))
 | gG (b vi:Nat) (e:Ty) (idx off blk o:Nat) (I:Old O.st b vi)
   (h:∀ xs:List (den e),O.st[b]? = some (.arr vi e xs)->idx<xs.length->∃ n:Nat,O.ph[b]? = some (some (blk,n))/\o=idx*e.size+off) :
   RD O (.gG b vi e idx off) (.pointer (some ⟨blk,o,none⟩))
 | ms (b vi:Nat) (e:Ty) (off len cap:Nat) (a:Option Addr) (I:Old O.st b vi) (jg:len<=cap) (ha:a=none->cap=0) (Ws:∀ p,a=some p->p.spot=none)
   (h:∀ xs:List (den e),O.st[b]? = some (.arr vi e xs)->Mf O.ph b xs.length e off len (.slice a len cap)):RD O (.ms b vi e off len) (.slice a len cap)
 | wh (f:Nat) (l:List D) (vs:List Value) (R:l.length=vs.length) (h:∀ i (h1:i<l.length) (M:i<vs.length),RD O l[i] vs[i]):RD O (.wh f l) (Qx f vs)
 | agg (l:List D) (vs:List Value) (R:l.length=vs.length) (ho:∀ d∈l,d.one=true) (h:∀ i (h1:i<l.length) (M:i<vs.length),RD O l[i] vs[i]):RD O (.agg l) (.agg vs.toArray)
 | eD (l:List D) (vs:List Value) (R:l.length=vs.length) (h:∀ i (h1:i<l.length) (M:i<vs.length),RD O l[i] vs[i]):RD O (.eD l) (.tuple vs.toArray)
 | iface (t:Nat) (d:D) (v:Value) (h:RD O d v):RD O (.iface t d) (.iface t v)
def wN(O:KS)(l:List D)(vs:List Value):Prop:=l.length=vs.length/\∀ i (h1:i<l.length) (M:i<vs.length),RD O l[i] vs[i]
def Tg(o:Obj)(l:List Int):Prop:=∀ (P:Program) (k e:TypeId),P.underlying k=some (.int .i64)->P.underlying e=some .bool->∀ (w:World) (b:Nat),w.heap[b]? = some o ->
 ∃ D:DataW Unit,w.ownsMap P k (plainElem P e) b l.length D/\Go.Maps.IsMap D/\∀ n,(Lit.int .i64 n).wf=true->D.atKey (.int .i64 n) (.lit (.bool false))=.lit (.bool (l.contains n))
def Cells(O:KS)(b:Nat)(d:D):Prop:=∃ (blk n:Nat) (cs:Array Value) (t:TypeId),O.ph[b]? = some (some (blk,n))/\O.w.heap[blk]? = some (.cells cs t (0,0))/\cs.size=n/\wN O (xx d) cs.toList/\(∀ x∈xx d,x.one=true)/\∀ T,d.typed=some T->t=T
def Maps(O:KS)(b:Nat)(l:List Int):Prop:=∃ (blk:Nat) (o:Obj),O.ph[b]? = some (some (blk,0))/\O.w.heap[blk]? = some o/\Tg o l
def kT(O:KS)(b:Nat)(d:D):Prop:=match d with
 | .Bg l=>Maps O b l
 | d=>Cells O b d
theorem kT.elim{O:KS}{b:Nat}{d:D}{p:Prop}(h:kT O b d)(h1:d.Yo=false->Cells O b d->p)(M:∀ l,d=.Bg l->Maps O b l->p):p:=by
 cases d<;>first | exact M _ rfl h | exact h1 rfl h
theorem kT.cells{O:KS}{b:Nat}{d:D}(h:kT O b d)(hm:d.Yo=false):Cells O b d:=h.elim (λ_ h=>h) λl e _=>by subst e; cases hm
theorem kT.mk{O:KS}{b:Nat}{d:D}(hm:d.Yo=false)(h:Cells O b d):kT O b d:=by
 cases d<;>first | exact h | cases hm
def pD[Wm](O:KS)(b:Nat):cJ->Prop
 | .dead=>True
 | .var d=>kT O b d
 | .arr _ e xs=>0<e.size/\((xs=[]/\O.ph[b]? = some none) \/
   ∃ (blk n:Nat) (cs:Array Value) (t:TypeId),O.ph[b]? = some (some (blk,n))/\O.w.heap[blk]? = some (.cells cs t (0,0))/\cs.size=n/\xs.length*e.size<=n/\za7 e t /\
    ∃ f:Nat->List Value,∀ i (hi:i<xs.length),Rc O.w O.ok e xs[i] (f i)/\∀ j v,(f i)[j]? = some v->cs[i*e.size+j]? = some v)
class yY extends Wm where
 tab:List (Nat×(Obj->Prop))
def WK[yY](w:World)(ok:Nat->Prop):Prop:=∀ x∈yY.tab,ok x.1/\∃ o,w.heap[x.1]? = some o/\x.2 o
theorem WK.mono[yY]{w w':World}{ok JQ:Nat->Prop}(h:WK w ok)(hs:I3 w w' ok JQ):WK w' JQ:=λx N=>by
 obtain⟨h1,o,M,h3⟩:=h x N
 obtain⟨g1,g2⟩:=hs _ h1
 grind
structure Inv[yY](O:KS):Prop where
 len:O.ph.length=O.st.length
 bJ:∀ k,O.ok k->k<O.w.heap.size
 apart:∀ (b blk n:Nat),O.ph[b]? = some (some (blk,n))->blk<O.w.heap.size/\¬ O.ok blk
 inj:∀ (b b' blk n n':Nat),O.ph[b]? = some (some (blk,n))->O.ph[b']? = some (some (blk,n'))->b=b'
 blk:∀ (b:Nat) (x:cJ),O.st[b]? = some x->pD O b x
 gl:WK O.w O.ok
structure Ext(O E:KS):Prop where
 os:E.w.os=O.w.os
 tape:E.w.tape=O.w.tape
 output:E.w.output=O.w.output
 size:O.w.heap.size<=E.w.heap.size
 same:I3 O.w E.w O.ok E.ok
 fresh:∀ k,E.ok k->O.ok k\/O.w.heap.size<=k\/∃ b n:Nat,O.ph[b]? = some (some (k,n))
 phs:∀ (b blk n:Nat),E.ph[b]? = some (some (blk,n))->O.ph[b]? = some (some (blk,n))\/O.w.heap.size<=blk
 var:∀ (b:Nat) (d:D),O.st[b]? = some (.var d)->(∃ d',E.st[b]? = some (.var d'))/\E.ph[b]? = O.ph[b]?
 arr:∀ (b v0:Nat) (e:Ty) (Vq:List (den e)),O.st[b]? = some (.arr v0 e Vq)->E.st[b]? = some .dead \/
  ∃ (v1:Nat) (xs1:List (den e)),E.st[b]? = some (.arr v1 e xs1)/\v0<=v1/\(v0=v1->E.ph[b]? = O.ph[b]? /\ Vq.length=xs1.length)
 dead:∀ (b:Nat),O.st[b]? = some .dead->E.st[b]? = some .dead
 Ft:O.st.length<=E.st.length
 frame:∀ k,k<O.w.heap.size->(∀ (b n:Nat),O.ph[b]? ≠ some (some (k,n)))->E.w.heap[k]? = O.w.heap[k]?
theorem Ext.refl(O:KS):Ext O O :=
 ⟨rfl,rfl,rfl,zF _,λ_ h=>⟨h,rfl⟩,λ_ h=>.inl h,λ_ _ _ h=>.inl h,λ_ d h=>⟨⟨d,h⟩,rfl⟩,
  λ_ vi _ xs h=>.inr ⟨vi,xs,h,zF _,λ_=>⟨rfl,rfl⟩⟩,λ_ h=>h,zF _,λ_ _ _=>rfl⟩
theorem Ext.trans{a b c:KS}(h:Ext a b)(k:Ext b c):Ext a c:=by
 refine⟨k.os.trans h.os,k.tape.trans h.tape,k.output.trans h.output,zS h.size k.size,?_,?_,?_,?_,?_,λb I=>k.dead b (h.dead b I),zS h.Ft k.Ft,?_⟩
 ·intro i hi
  obtain⟨h1,M⟩:=h.same i hi
  obtain⟨h3,h4⟩:=k.same i h1
  grind
 ·intro i hi
  rcases k.fresh i hi with h1 | h1 | ⟨b,n,h1⟩
  ·exact h.fresh i h1
  ·exact .inr (.inl (zS h.size h1))
  ·rcases h.phs b i n h1 with M | M
   ·grind
   ·grind
 ·intro i blk n hi
  rcases k.phs i blk n hi with h1 | h1
  ·exact h.phs i blk n h1
  ·exact .inr (zS h.size h1)
 ·intro i d hi
  obtain⟨⟨d',eb⟩,hp⟩:=h.var i d hi
  obtain⟨zrE,hp'⟩:=k.var i d' eb
  grind
 ·intro i v0 e Vq hi
  rcases h.arr i v0 e Vq hi with h1 | ⟨v1,x1,h1,M,h3⟩
  ·exact .inl (k.dead i h1)
  ·rcases k.arr i v1 e x1 h1 with g1 | ⟨v2,x2,g1,g2,g3⟩
   ·grind
   ·grind
 ·intro i hi hn
  refine(k.frame i (Nat.lt_of_lt_of_le hi h.size) λb n I => ?_).trans (h.frame i hi hn)
  rcases h.phs b i n I with h1 | h1
  ·grind
  ·omega
theorem Ext.old{O E:KS}(x:Ext O E){b vi:Nat}(h:Old O.st b vi):Old E.st b vi:=by
 rcases h with h | ⟨v0,e0,Vq,h,hv⟩
 ·exact .inl (x.dead b h)
 ·rcases x.arr b v0 e0 Vq h with h1 | ⟨v1,x1,h1,M,_⟩
  ·exact .inl h1
  ·exact .inr ⟨v1,e0,x1,h1,zS hv M⟩
theorem Ext.back{O E:KS}(x:Ext O E){b vi:Nat}(h:Old O.st b vi){e:Ty}{xs:List (den e)}(N:E.st[b]? = some (.arr vi e xs)) :
  ∃ Vq:List (den e),O.st[b]? = some (.arr vi e Vq)/\E.ph[b]? = O.ph[b]? /\ Vq.length=xs.length:=by
 rcases h with h | ⟨v0,e0,Vq,h,hv⟩
 ·have:=x.dead b h; rw[N]at this; cases this
 ·rcases x.arr b v0 e0 Vq h with h1 | ⟨v1,x1,h1,M,h3⟩
  ·grind
  ·grind
theorem RD.mono{O E:KS}(x:Ext O E){d:D}{v:Value}(h:RD O d v):RD E d v:=by
 induction h with
 | qj τ y cs h=>exact .qj τ y cs (h.mono x.same)
 | vz e a=>exact .vz e a
 | tight e l ne blk off f kf j3 h hc=>exact .tight e l ne blk off f kf (x.same _ j3).1 (λi hi=>(h i hi).mono x.same) λi hi j v hv=>by rw[lK (x.same _ j3).2]; exact hc i hi j v hv
 | sr e l b v h ht hf=>exact .sr e l b v (h.mono x.same) ht hf
 | wE=>exact .wE
 | gU=>exact .gU
 | v8=>exact .v8
 | gj=>exact .gj
 | uT=>exact .uT
 | WH v h=>exact .WH v h
 | mP T=>exact .mP T
 | nn b T d J =>
  obtain⟨⟨d',eb⟩,hp⟩:=x.var b d J
  exact .nn b T d' eb
 | yL b blk n d J h =>
  obtain⟨⟨d',eb⟩,hp⟩:=x.var b d J
  exact .yL b blk n d' eb (hp.trans h)
 | np b T blk n d J h =>
  obtain⟨⟨d',eb⟩,hp⟩:=x.var b d J
  exact .np b T blk n d' eb (hp.trans h)
 | ptr b off blk n d J h =>
  obtain⟨⟨d',eb⟩,hp⟩:=x.var b d J
  exact .ptr b off blk n d' eb (hp.trans h)
 | vA τ y cs blk off j3 h hc=>exact .vA τ y cs blk off (x.same _ j3).1 (h.mono x.same) λj v hv=>by rw[lK (x.same _ j3).2]; exact hc j v hv
 | gG b vi e idx off blk o I h =>
  refine .gG b vi e idx off blk o (x.old I) λxs N hi => ?_
  obtain⟨Vq,h1,M,h3⟩:=x.back I N
  grind
 | ms b vi e off len cap a I jg ha Ws h =>
  refine .ms b vi e off len cap a (x.old I) jg ha Ws λxs N => ?_
  obtain⟨Vq,h1,M,h3⟩:=x.back I N
  have:=h Vq h1
  unfold Mf at this ⊢
  grind
 | wh f l vs R h ih=>exact .wh f l vs R ih
 | agg l vs R ho h ih=>exact .agg l vs R ho ih
 | eD l vs R h ih=>exact .eD l vs R ih
 | iface t d v h ih=>exact .iface t d v ih
end Go.AM
namespace Go.AM
section
variable {α β:Type}
theorem T.xg{t:T α}{k:α->T β}{b:β}:(t.bind k).leads b↔∃ a,t.leads a/\(k a).leads b:=by
 induction t with
 | ret a=>simp[T.bind,T.leads]
 | ite c t e i1 i2 =>
  simp only[T.bind,T.leads]
  grind
 | W p t ih =>
  simp only[T.bind,T.leads]; constructor
  ·grind
  ·grind
 | fail=>simp[T.bind,T.leads]
theorem T.FE{t:T α}{Q:α->Prop}(h:t.wp Q):∃ a,t.leads a/\Q a:=by
 induction t with
 | ret a=>exact⟨a,rfl,h⟩
 | ite c t e i1 i2 =>
  cases c with
  | true=>obtain⟨a,x,y⟩:=i1 (h.1 rfl); exact⟨a,.inl ⟨rfl,x⟩,y⟩
  | false=>obtain⟨a,x,y⟩:=i2 (h.2 rfl); exact⟨a,.inr ⟨rfl,x⟩,y⟩
 | W p t ih=>obtain⟨a,x,y⟩:=ih h.2; exact⟨a,⟨h.1,x⟩,y⟩
 | fail=>exact h.elim
theorem T.K1{t:T α}{Q:α->Prop}{a:α}(h:t.leads a)(hq:Q a):t.wp Q:=by
 induction t with
 | ret x=>cases h; exact hq
 | ite c t e i1 i2 =>
  rcases h with⟨h1,M⟩ | ⟨h1,M⟩
  ·exact⟨λ_=>i1 M,λk=>absurd (h1.symm.trans k) (qz)⟩
  ·exact⟨λk=>absurd (h1.symm.trans k) (qz),λ_=>i2 M⟩
 | W p t ih=>exact⟨h.1,ih h.2⟩
 | fail=>exact h.elim
theorem T.yu{o:Option α}{a:α}:(T.YV o).leads a↔o=some a:=by cases o<;>simp[T.YV,T.leads]
end
section
variable {O:KS}
theorem wN.nil:wN O [] []:=⟨rfl,λi h _=>absurd h (Nat.not_lt_zero i)⟩
theorem wN.cons{d:D}{v:Value}{l:List D}{vs:List Value}(h:RD O d v)(t:wN O l vs):wN O (d::l) (v::vs) :=
 ⟨by simp[t.1],λi h1 M=>by cases i with | zero=>exact h | succ i=>exact t.2 i (xy) (xy)⟩
theorem wN.cons_inv{d:D}{l:List D}{vs:List Value}(h:wN O (d::l) vs):∃ v r,vs=v::r/\RD O d v/\wN O l r:=by
 obtain⟨R,h⟩:=h
 cases vs with
 | nil=>simp at R
 | cons v r=>exact⟨v,r,rfl,h 0 (qz) (qz),xy,λi h1 M=>h (i+1) (xy) (xy)⟩
theorem wN.wb{vs:List Value}(h:wN O [] vs):vs=[]:=List.eq_nil_of_length_eq_zero h.1.symm
theorem wN.append{l l':List D}{vs vs':List Value}(h:wN O l vs)(h':wN O l' vs'):wN O (l++l') (vs++vs'):=by
 induction l generalizing vs with
 | nil=>rw[h.wb]; exact h'
 | cons d l ih=>obtain⟨v,r,rfl,h1,M⟩:=h.cons_inv; exact .cons h1 (ih M)
theorem wN.I6{l l':List D}{vs:List Value}(h:wN O (l++l') vs):∃ v1 v2,vs=v1++v2/\wN O l v1/\wN O l' v2:=by
 induction l generalizing vs with
 | nil=>exact⟨[],vs,rfl,.nil,h⟩
 | cons d l ih =>
  obtain⟨v,r,rfl,h1,M⟩:=h.cons_inv
  obtain⟨v1,v2,rfl,h3,h4⟩:=ih M
  exact⟨v::v1,v2,rfl,.cons h1 h3,h4⟩
theorem wN.get{l:List D}{vs:List Value}(h:wN O l vs){i:Nat}{d:D}(J:l[i]? = some d):∃ v,vs[i]? = some v/\RD O d v:=by
 obtain⟨wM,he⟩:=List.getElem?_eq_some_iff.1 J
 have M:i<vs.length:=h.1▸wM
 exact⟨vs[i],zP M,he▸h.2 i wM M⟩
theorem wN.take{l:List D}{vs:List Value}(h:wN O l vs)(n:Nat):wN O (l.take n) (vs.take n) :=
 ⟨by simp[h.1],λi h1 M=>by simp; exact h.2 i (xy) (xy)⟩
theorem wN.drop{l:List D}{vs:List Value}(h:wN O l vs)(n:Nat):wN O (l.drop n) (vs.drop n) :=
 ⟨by simp[h.1],λi h1 M=>by simp; exact h.2 (n+i) (xy) (xy)⟩
theorem wN.mono{E:KS}(x:Ext O E){l:List D}{vs:List Value}(h:wN O l vs):wN E l vs:=⟨h.1,λi h1 M=>(h.2 i h1 M).mono x⟩
theorem Us{τ:Ty}{cs:List Value}(h:cs.length=τ.size)(ZM:∀ v∈cs,v.oneCell'=true):(pk τ cs).cells.toList=cs:=by
 unfold pk
 split
 ·rfl
 ·rename_i hn
  have hs:τ.size=1:=by cases τ<;>simp[Ty.isAgg]at hn<;>rfl
  match cs,h,ZM with
  | [v],_,ZM =>
   have:=ZM v (qz)
   cases v<;>first | rfl | cases this
  | [],h,_=>grind
  | _::_::_,h,_=>grind
theorem G3{τ:Ty}(h:τ.isAgg=false)(v:Value):pk τ [v]=v:=by simp[pk,h]
theorem JR{τ:Ty}(h:τ.isAgg=false):τ.size=1:=by cases τ<;>simp[Ty.isAgg]at h<;>rfl
theorem Rc.single{w:World}{ok:Nat->Prop}{τ:Ty}{x:den τ}{cs:List Value}(h:Rc w ok τ x cs)(ht:τ.isAgg=false):∃ v,cs=[v]:=by
 have:=h.len
 rw[JR ht]at this
 match cs,this with
 | [v],_=>simp
theorem RD.tY{τ:Ty}{x:den τ}{v:Value}(ht:τ.isAgg=false)(h:Rc O.w O.ok τ x [v]):RD O (.qj τ x) v:=by
 have:=RD.qj τ x [v] h
 rwa [G3 ht]at this
theorem RD.cN{τ:Ty}{x:den τ}{v:Value}(h:RD O (.qj τ x) v):∃ cs,Rc O.w O.ok τ x cs/\v=pk τ cs:=by
 cases h with | qj _ _ cs h=>exact⟨cs,h,rfl⟩
theorem RD.jG{τ:Ty}{x:den τ}{v:Value}(h:RD O (.qj τ x) v)(ht:τ.isAgg=false):Rc O.w O.ok τ x [v]:=by
 obtain⟨cs,hc,rfl⟩:=RD.cN h
 obtain⟨u,rfl⟩:=hc.single ht
 rwa [G3 ht]
theorem RD.int{k:IntKind}{n:Int}:RD O (.qj (.int k) n) (.int k n):=RD.tY rfl (.int k n)
theorem RD.bool{b:Bool}:RD O (.qj .bool b) (.bool b):=RD.tY rfl (.bool b)
theorem RD.str{s:zx}:RD O (.qj .str s) (.string ⟨s.toArray⟩):=RD.tY rfl (.str s)
theorem RD.dM{k:IntKind}{n:Int}{v:Value}(h:RD O (.qj (.int k) n) v):v=.int k n:=by have:=(h.jG rfl).dM; simpa using this
theorem RD.cp{b:Bool}{v:Value}(h:RD O (.qj .bool b) v):v=.bool b:=by have:=(h.jG rfl).cp; simpa using this
theorem RD.jc{s:zx}{v:Value}(h:RD O (.qj .str s) v):v=.string ⟨s.toArray⟩:=by have:=(h.jG rfl).jc; simpa using this
theorem wN.one{d:D}{v:Value}(h:RD O d v):wN O [d] [v]:=.cons h .nil
theorem X0{τ:Ty}{x:den τ}{cs:List Value}(h:Rc O.w O.ok τ x cs):wN O (flat τ x) cs:=by
 induction τ generalizing cs with
 | int k=>obtain⟨v,rfl⟩:=h.single rfl; exact .one (.tY rfl h)
 | bool=>obtain⟨v,rfl⟩:=h.single rfl; exact .one (.tY rfl h)
 | str=>obtain⟨v,rfl⟩:=h.single rfl; exact .one (.tY rfl h)
 | sl e _=>obtain⟨v,rfl⟩:=h.single rfl; exact .one (.tY rfl h)
 | nil=>rw[h.wb]; exact .nil
 | cons a b i1 i2=>obtain⟨c1,c2,rfl,h1,M⟩:=h.cons_inv; exact(i1 h1).append (i2 M)
 | expr =>
  obtain⟨c1,r1,rfl,h1,t1⟩:=h.Ea.cons_inv
  obtain⟨c2,r2,rfl,M,t2⟩:=t1.cons_inv
  obtain⟨c3,r3,rfl,h3,t3⟩:=t2.cons_inv
  obtain⟨c4,r4,rfl,h4,t4⟩:=t3.cons_inv
  have e4:=t4.wb
  subst e4
  obtain⟨d1,s1,rfl,g1,u1⟩:=M.cons_inv
  obtain⟨d2,s2,rfl,g2,u2⟩:=u1.cons_inv
  obtain⟨d3,s3,rfl,g3,u3⟩:=u2.cons_inv
  have e5:=u3.wb
  subst e5
  obtain⟨v1,rfl⟩:=h1.single rfl
  obtain⟨v3,rfl⟩:=h3.single rfl
  obtain⟨v4,rfl⟩:=h4.single rfl
  obtain⟨u1,rfl⟩:=g1.single rfl
  obtain⟨u2,rfl⟩:=g2.single rfl
  obtain⟨u3,rfl⟩:=g3.single rfl
  exact .cons (.tY rfl h1) (.cons (.tY rfl g1) (.cons (.tY rfl g2) (.cons (.tY rfl g3) (.cons (.tY rfl h3) (.cons (.tY rfl h4) .nil)))))
theorem rj:∀ (τ:Ty) (x:den τ),∀ d∈flat τ x,d.one=true
 | .int _,_,d,h | .bool,_,d,h | .str,_,d,h | .sl _,_,d,h=>by simp[flat]at h; subst h; rfl
 | .nil,_,d,h=>by simp[flat]at h
 | .cons a b,x,d,h=>by
  simp only[flat,List.mem_append]at h
  rcases h with h | h
  ·exact rj a x.1 d h
  ·exact rj b x.2 d h
 | .expr,x,d,h=>by simp[flat]at h; rcases h with rfl | rfl | rfl | rfl | rfl | rfl<;>rfl
theorem VT:∀ (τ:Ty) (x:den τ),(flat τ x).length=τ.size
 | .int _,_ | .bool,_ | .str,_ | .sl _,_ | .nil,_ | .expr,_=>rfl
 | .cons a b,x=>by simp[flat,Ty.size,VT a,VT b]
theorem W4{v:Value}(h:v.oneCell'=true):v.cells = #[v]:=by
 cases v<;>first | rfl | cases h
theorem cx{d:D}{v:Value}(h:RD O d v)(ht:d.bz=false):wN O (xx d) v.cells.toList:=by
 cases h with
 | qj τ x cs h=>rw[Us h.len h.one]; exact X0 h
 | agg l vs R ho h=>exact⟨by simpa[qA,xx]using R,λi h1 M=>by simp at M ⊢; exact h i h1 M⟩
 | eD=>cases ht
 | vz e a=>exact .one (.vz e a)
 | tight e l ne blk off f kf j3 h hc=>exact .one (.tight e l ne blk off f kf j3 h hc)
 | sr e l b v h ht hf=>rw[W4 (h.one v (qz))]; exact .one (.sr e l b v h ht hf)
 | wE=>exact .one .wE
 | gU=>exact .one .gU
 | v8=>exact .one .v8
 | gj=>exact .one .gj
 | uT=>exact .one .uT
 | WH v h=>rw[W4 h]; exact .one (.WH v h)
 | mP T=>exact .one (.mP T)
 | yL b blk n d J h=>exact .one (.yL b blk n d J h)
 | nn b T d J=>exact .one (.nn b T d J)
 | np b T blk n d J h=>exact .one (.np b T blk n d J h)
 | ptr b off blk n d J h=>exact .one (.ptr b off blk n d J h)
 | vA τ x cs blk off j3 h hc=>exact .one (.vA τ x cs blk off j3 h hc)
 | gG b vi e idx off blk o I h=>exact .one (.gG b vi e idx off blk o I h)
 | ms b vi e off len cap a I jg ha Ws h=>exact .one (.ms b vi e off len cap a I jg ha Ws h)
 | wh f l vs R h=>rw[Y3]; exact .one (.wh f l vs R h)
 | iface t d v h=>exact .one (.iface t d v h)
theorem cv{d:D}{v:Value}(h:RD O d v):∀ x∈xx d,x.one=true:=by
 cases h with
 | qj τ x cs h=>exact rj τ x
 | agg l vs R ho h=>exact ho
 | eD=>nofun
 | _=>intro x N; simp[xx]at N; subst N; rfl
theorem RD.KB{d:D}{v:Value}(h:RD O d v)(ho:d.one=true):v.oneCell'=true:=by
 cases h with
 | qj τ x cs h =>
  have ht:τ.isAgg=false:=by simpa[D.one]using ho
  obtain⟨v,rfl⟩:=h.single ht
  rw[G3 ht]
  exact h.one v (qz)
 | agg=>cases ho
 | eD=>cases ho
 | WH v h=>exact h
 | wh f l vs=>exact TF f vs
 | sr e l b v h=>exact h.one v (qz)
 | _=>rfl
theorem wg{a b:Ty}{x:den a}{y:den b}(h:(jR x:Option (den b))=some y):∃ e:a=b,y=e▸x:=by
 unfold jR at h
 grind
theorem eo{τ:Ty}{d:D}{v:Value}{x:den τ}(h:RD O d v)(N:pI τ d=some x)(ht:τ.isAgg=false):Rc O.w O.ok τ x [v]:=by
 cases h with
 | qj σ y cs h =>
  obtain⟨rfl,rfl⟩:=wg N
  obtain⟨u,rfl⟩:=h.single ht
  rwa [G3 ht]
 | vz e a=>obtain⟨rfl,rfl⟩:=wg N; exact .lB e a
 | tight e l ne blk off f kf j3 h hc=>obtain⟨rfl,rfl⟩:=wg N; exact .sl e _ blk off _ f j3 (zF _) h hc
 | sr e l b v h ht hf=>obtain⟨rfl,rfl⟩:=wg N; exact h
 | wE =>
  cases τ with
  | sl e=>simp[pI]at N; subst N; exact .lB e none
  | _=>simp[pI]at N
 | _=>simp[pI]at N
theorem Wl:∀ (τ:Ty) {ds:List D} {vs:List Value} {x:den τ} {r:List D},wN O ds vs->cH τ ds=some (x,r) ->
  ∃ c1 c2,vs=c1++c2/\Rc O.w O.ok τ x c1/\wN O r c2
 | .int k,[],_,_,_,_,he | .bool,[],_,_,_,_,he | .str,[],_,_,_,_,he | .sl e,[],_,_,_,_,he | .expr,[],_,_,_,_,he=>by simp[cH]at he
 | .int k,d::r,vs,x,r',h,he=>by
  simp only[cH]at he
  split at he
  ·rename_i y hy; cases he; obtain⟨v,u,rfl,h1,M⟩:=h.cons_inv; exact⟨[v],u,rfl,eo h1 hy rfl,M⟩
  ·cases he
 | .bool,d::r,vs,x,r',h,he=>by
  simp only[cH]at he
  split at he
  ·rename_i y hy; cases he; obtain⟨v,u,rfl,h1,M⟩:=h.cons_inv; exact⟨[v],u,rfl,eo h1 hy rfl,M⟩
  ·cases he
 | .str,d::r,vs,x,r',h,he=>by
  simp only[cH]at he
  split at he
  ·rename_i y hy; cases he; obtain⟨v,u,rfl,h1,M⟩:=h.cons_inv; exact⟨[v],u,rfl,eo h1 hy rfl,M⟩
  ·cases he
 | .sl e,d::r,vs,x,r',h,he=>by
  simp only[cH]at he
  split at he
  ·rename_i y hy; cases he; obtain⟨v,u,rfl,h1,M⟩:=h.cons_inv; exact⟨[v],u,rfl,eo h1 hy rfl,M⟩
  ·cases he
 | .nil,ds,vs,x,r,h,he=>by simp only[cH]at he; cases he; exact⟨[],vs,rfl,.nil,h⟩
 | .cons a b,ds,vs,x,r,h,he=>by
  simp only[cH]at he
  split at he
  ·rename_i y r' hy
   split at he
   ·rename_i z r'' hz
    cases he
    obtain⟨c1,c2,rfl,h1,M⟩:=Wl a h hy
    obtain⟨c3,c4,rfl,h3,h4⟩:=Wl b M hz
    exact⟨c1++c3,c4,qz,.cons a b y z c1 c3 h1 h3,h4⟩
   ·cases he
  ·cases he
 | .expr,d::r,vs,x,r',h,he=>by
  simp only[cH]at he
  split at he
  ·cases he
  ·rename_i k hk
   split at he
   ·rename_i d1 d2 d3 d4 d5 r0
    split at he
    ·rename_i a n m s l ha hn hm hs R
     cases he
     obtain⟨v,u,rfl,h0,t0⟩:=h.cons_inv
     obtain⟨v1,u1,rfl,h1,t1⟩:=t0.cons_inv
     obtain⟨v2,u2,rfl,M,t2⟩:=t1.cons_inv
     obtain⟨v3,u3,rfl,h3,t3⟩:=t2.cons_inv
     obtain⟨v4,u4,rfl,h4,t4⟩:=t3.cons_inv
     obtain⟨v5,u5,rfl,h5,t5⟩:=t4.cons_inv
     refine⟨[v]++(([v1]++([v2]++([v3]++[])))++([v4]++([v5]++[]))),u5,qz,.expr _ _ _ _ _ ?_,t5⟩
     exact .cons i64 _ k _ _ _ (eo h0 hk rfl) (.cons Bn _ (a,n,m,()) _ _ _ (.cons .bool _ a _ _ _ (eo h1 ha rfl) (.cons _ _ n _ _ _ (eo M hn rfl) (.cons _ _ m _ _ _ (eo h3 hm rfl) .nil)))
      (.cons .str _ s _ _ _ (eo h4 hs rfl) (.cons _ _ l _ _ _ (eo h5 R rfl) .nil)))
    ·cases he
   ·cases he
theorem mw{τ:Ty}{d:D}{v:Value}{x:den τ}(h:RD O d v)(N:ox τ d=some x):RD O (.qj τ x) v:=by
 have key:(∀ σ y,d≠.qj σ y)->(bif (d.isAgg==τ.isAgg) && !d.bz then(match cH τ (xx d)with | some (x,[])=>some x | _=>none)else none)=some x->RD O (.qj τ x) v:=by
  intro hni N
  cases hc:(d.isAgg==τ.isAgg) && !d.bz with
  | false=>grind
  | true =>
  rw[hc]at N
  simp at hc
  obtain⟨zbr,H0⟩:=hc
  split at N
  ·rename_i y hy
   cases N
   obtain⟨c1,c2,he,h1,M⟩:=Wl τ (cx h H0) hy
   have e2:=M.wb
   subst e2
   rw[List.append_nil]at he
   have hv:v=pk τ c1:=by
    rw[<- he]
    cases J:d.isAgg with
    | true =>
     cases d<;>simp[D.isAgg]at J
     cases h with | agg l vs R ho h=>simp[pk,D.isAgg]at zbr ⊢; simp[<- zbr,qA]
    | false =>
     simp only[pk,<- zbr]
     cases h<;>first | rfl | (rw[Y3]; rfl) | (rename_i h _ _; rw[W4 (h.one _ (List.mem_singleton.2 rfl))]; rfl) | (rename_i hu; rw[W4 hu]; rfl) | (rename_i σ y cs hc; exact absurd rfl (hni σ y)) | (simp at J; done) | (simp at H0; done)
   rw[hv]
   exact .qj τ _ c1 h1
  ·cases N
 cases d with
 | qj σ y=>obtain⟨rfl,rfl⟩:=wg N; exact h
 | Bg l=>cases N
 | _=>exact key (λ_ _=>nofun) N
end
end Go.AM
namespace Go.AM
set_option linter.unusedSectionVars false
variable [yY]
def wy(P:Program)(s:Sem Next)(O:KS)(d:Option D)(qm:St):Prop :=
 ∃ (E:KS) (n:Next) (v:Value),s.run P O.w=.ok n E.w/\(n=.value v\/(n=.skip/\v=undef))/\E.st=qm/\Inv E/\Ext O E/\∀ d',d=some d'->RD E d' v
section
variable {c:Ctx} {O:KS}
theorem wy.pure{s:Sem Value}{d:D}{v:Value}(hi:Inv O)(h:s.run c.P O.w=.ok v O.w)(J:RD O d v):wy c.P (do zG (.value (<- s))) O (some d) O.st :=
 ⟨O,.value v,v,by simp[h],.inl rfl,rfl,hi,Ext.refl O,λ_ he=>xy⟩
theorem wy.val{d:Option D}{v:Value}(hi:Inv O)(J:∀ d',d=some d'->RD O d' v):wy c.P (zG (.value v)) O d O.st :=
 ⟨O,.value v,v,rfl,.inl rfl,rfl,hi,Ext.refl O,J⟩
theorem mm{t n:Nat}(h:te c t=some n):∃ i,c.P.info? t=some i/\i.size=n:=by
 unfold te at h
 cases hi:c.P.info? t with
 | none=>grind
 | some i=>grind
theorem run_sizeOf{t n:Nat}(h:te c t=some n)(w:World):(sizeOf t).run c.P w=.ok n w:=by
 obtain⟨i,h1,M⟩:=mm h
 simp[sizeOf,typeInfo,h1,M]
theorem We{t:Nat}{b:Bool}(h:DA c t=some b)(w:World):(isAgg t).run c.P w=.ok b w:=by
 unfold DA at h
 cases hu:c.P.underlying t with
 | none=>grind
 | some d =>
  simp only[isAgg,X,run_underlying hu]
  cases d<;>simp[hu]at h<;>simp[<- h]
theorem ke{t:Nat}{τ:Ty}(h:bZ c t τ=true):te c t=some τ.size/\DA c t=some τ.isAgg:=by
 unfold bZ at h
 simp at h
 obtain⟨⟨_,h1⟩,M⟩:=h
 constructor
 ·split at h1
  ·rename_i n hn; rw[hn,zE h1]
  ·cases h1
 ·grind
theorem Um{t:Nat}{τ:Ty}(h:bZ c t τ=true):za7 τ t:=by
 unfold bZ at h
 simp at h
 intro e
 subst e
 exact zE h.1.1
omit [yY]in
theorem addr_add(blk o j:Nat):(⟨blk,o,none⟩:Addr).add j=⟨blk,o+j,none⟩:=by unfold Addr.add; split<;>simp_all
theorem sW{t:Nat}{b:Bool}{n blk o:Nat}{cs:List Value}(ha:DA c t=some b)(hn:te c t=some n)(R:cs.length=n)(h1:b=false->n=1)
  (hc:∀ j v,cs[j]? = some v->O.w.cell? ⟨blk,o+j,none⟩=some v) :
  (loadVar t ⟨blk,o,none⟩).run c.P O.w=.ok (if b then .agg cs.toArray else cs.headD undef) O.w:=by
 simp only[loadVar,X,We ha]
 cases b with
 | true =>
  simp[if_true,run_sizeOf hn]
  rw[<- R,run_loadCells_list O.w ⟨blk,o,none⟩ cs (λj v hj=>by rw[addr_add]; exact hc j v hj)]
  simp
 | false =>
  have:=h1 rfl
  subst this
  match cs,R with
  | [v],_ =>
   have:=hc 0 v rfl
   simp at this
   simp[this]
theorem z11{t:Nat}{τ:Ty}{x:den τ}{cs:List Value}{blk o:Nat}(ht:bZ c t τ=true)(h:Rc O.w O.ok τ x cs)
  (hc:∀ j v,cs[j]? = some v->O.w.cell? ⟨blk,o+j,none⟩=some v):(loadVar t ⟨blk,o,none⟩).run c.P O.w=.ok (pk τ cs) O.w:=by
 obtain⟨h1,M⟩:=ke ht
 rw[sW (c:=c) M h1 h.len (λe=>JR e) hc]
 rfl
theorem kR{t:T (Option D)}{st qm:St}{d:Option D}:(qu (.val t) st).leads (d,qm)↔t.leads d/\qm=st:=by
 simp only[qu,T.xg,T.leads]
 grind
theorem rH{k:St->T (Option D)}{st qm:St}{d:Option D}:(qu (.rd k) st).leads (d,qm)↔(k st).leads d/\qm=st:=by
 simp only[qu,T.xg,T.leads]
 grind
theorem zh{st:St}{r:Option D×St}:¬ (qu bad st).leads r:=by nofun
theorem du{x:D}{st qm:St}{d:Option D}:(qu (AM.val x) st).leads (d,qm)↔d=some x/\qm=st:=by
 rw[AM.val,kR]; simp only[T.leads]; exact⟨λh=>⟨h.1.symm,h.2⟩,λh=>⟨h.1.symm,h.2⟩⟩
theorem yy{p:Prop}{x:D}{st qm:St}{d:Option D}:(qu (.val (.W p (.ret (some x)))) st).leads (d,qm)↔p/\d=some x/\qm=st:=by
 rw[kR]; simp only[T.leads]
 grind
theorem YE{x:Option D}{st qm:St}{d:Option D}(h:(qu (z8v x) st).leads (d,qm)):∃ y,x=some y/\d=some y/\qm=st:=by
 cases x with
 | none=>exact absurd h zh
 | some y=>rw[z8v,kR]at h; exact⟨y,rfl,h.1.symm,h.2⟩
theorem Kp:∀ (τ:Ty) (x:den τ) {cs:List Value},wN O (flat τ x) cs->Rc O.w O.ok τ x cs
 | .int k,x,cs,h=>by obtain⟨v,r,rfl,h1,M⟩:=h.cons_inv; rw[M.wb]; exact h1.jG rfl
 | .bool,x,cs,h=>by obtain⟨v,r,rfl,h1,M⟩:=h.cons_inv; rw[M.wb]; exact h1.jG rfl
 | .str,x,cs,h=>by obtain⟨v,r,rfl,h1,M⟩:=h.cons_inv; rw[M.wb]; exact h1.jG rfl
 | .sl e,x,cs,h=>by obtain⟨v,r,rfl,h1,M⟩:=h.cons_inv; rw[M.wb]; exact h1.jG rfl
 | .nil,x,cs,h=>by rw[h.wb]; exact .nil
 | .cons a b,x,cs,h=>by
  obtain⟨c1,c2,rfl,h1,M⟩:=wN.I6 h
  exact .cons a b x.1 x.2 c1 c2 (Kp a x.1 h1) (Kp b x.2 M)
 | .expr,.mk k (a,n,m,()) s l,cs,h=>by
  obtain⟨v,u,rfl,h0,t0⟩:=h.cons_inv
  obtain⟨v1,u1,rfl,h1,t1⟩:=t0.cons_inv
  obtain⟨v2,u2,rfl,M,t2⟩:=t1.cons_inv
  obtain⟨v3,u3,rfl,h3,t3⟩:=t2.cons_inv
  obtain⟨v4,u4,rfl,h4,t4⟩:=t3.cons_inv
  obtain⟨v5,u5,rfl,h5,t5⟩:=t4.cons_inv
  rw[t5.wb]
  exact .expr _ _ _ _ _ (.cons i64 _ k _ _ _ (h0.jG rfl) (.cons Bn _ (a,n,m,()) _ _ _ (.cons .bool _ a _ _ _ (h1.jG rfl) (.cons (.sl u32) (.cons (.sl u32) .nil) n (m,()) [v2] ([v3]++[]) (M.jG rfl) (.cons (.sl u32) .nil m () [v3] [] (h3.jG rfl) .nil)))
      (.cons .str _ s _ _ _ (h4.jG rfl) (.cons (.sl .expr) .nil l () [v5] [] (h5.jG rfl) .nil))))
theorem Pm{t:Nat}{d r:D}{off:Nat}{vs:List Value}(h:LP c t d off=some r)(J:wN O (xx d) vs)(ZM:∀ x∈xx d,x.one=true) :
  (∃ n,DA c t=some true/\te c t=some n/\off+n<=vs.length/\RD O r (.agg ((vs.drop off).take n).toArray)) \/
  (∃ v,DA c t=some false/\vs[off]? = some v/\RD O r v):=by
 unfold LP at h
 split at h
 ·rename_i ha
  split at h
  ·cases h
  ·rename_i n hn
   refine .inl ⟨n,ha,hn,?_⟩
   cases I:(zA off 0&&zA n (xx d).length&&d.ze5)with
   | true =>
    rw[I]at h
    simp at h
    subst h
    simp only[zM]at I
    obtain⟨⟨h1,M⟩,h3⟩:=I
    have e1:off=0:=zE h1
    have e2:n=(xx d).length:=zE M
    subst e1
    have R:=J.1
    rw[e2,R]
    refine⟨Z,?_⟩
    simp
    cases d with
    | qj τ x =>
     have:=RD.qj τ x vs (Kp τ x J)
     simpa[pk,show τ.isAgg=true from h3]using this
    | agg l=>exact .agg l vs R ZM J.2
    | _=>cases h3
   | false =>
    rw[I]at h
    split at h
    ·rename_i l R
     cases h
     unfold BC at R
     cases hle:zJ (off+n) (xx d).length with
     | false=>grind
     | true =>
      rw[hle]at R
      cases R
      have GV:=zK hle
      refine⟨by rw[<- J.1]; exact GV,?_⟩
      have ht:=(J.drop off).take n
      exact .agg _ _ ht.1 (λx N=>ZM x (List.mem_of_mem_drop (List.mem_of_mem_take N))) ht.2
    ·cases h
 ·rename_i ha
  obtain⟨v,h1,M⟩:=J.get h
  grind
 ·cases h
theorem YF{t:Nat}{d r:D}{off blk:Nat}{vs:List Value}(base:Nat)(h:LP c t d off=some r)(J:wN O (xx d) vs)(ZM:∀ x∈xx d,x.one=true)
  (hc:∀ j v,vs[j]? = some v->O.w.cell? ⟨blk,base+j,none⟩=some v):∃ v,(loadVar t ⟨blk,base+off,none⟩).run c.P O.w=.ok v O.w/\RD O r v:=by
 rcases Pm h J ZM with⟨n,ha,hn,hle,hr⟩ | ⟨v,ha,hv,hr⟩
 ·refine⟨_,?_,hr⟩
  rw[sW (c:=c) (b:=true) (cs:=(vs.drop off).take n) ha hn (xy) nofun]
  ·simp
  ·grind
 ·refine⟨v,?_,hr⟩
  simp only[loadVar,X,We ha]
  simp[hc off v hv]
theorem XX{blk:Nat}{cs:Array Value}{t:TypeId}{fz:Nat×Nat}(h:O.w.heap[blk]? = some (.cells cs t fz))(o:Nat):O.w.cell? ⟨blk,o,none⟩=cs[o]? := by
 simp[World.cell?,h]
theorem Sj{t:Nat}{x:Option D}{v:Value}{d:Option D}{qm:St}(hi:Inv O)(N:∀ y,x=some y->RD O y v)(h:(qu (WZ c t x) O.st).leads (d,qm)) :
  wy c.P (do zG (.value (<- zW t v))) O d qm:=by
 unfold WZ at h
 split at h
 ·rename_i τ y
  cases ht:bZ c t τ with
  | false=>rw[ht]at h; exact absurd h zh
  | true =>
   rw[ht,cond_true,du]at h
   obtain⟨rfl,rfl⟩:=h
   cases N _ rfl with
   | vA _ _ cs blk off j3 hr hc =>
    exact wy.pure hi (by simp[zW,zQ,z11 ht hr hc]) (.qj τ y cs hr)
 ·rename_i b off
  rw[rH]at h
  obtain⟨h,rfl⟩:=h
  split at h
  ·rename_i d0 I
   cases Ka:d0.Yo with
   | true=>rw[Ka]at h; exact h.elim
   | false =>
   rw[Ka,cond_false]at h
   split at h
   ·rename_i r hr
    cases h
    cases N _ rfl with
    | ptr _ _ blk n d1 J hp =>
     obtain⟨pG,n',cs,T,g1,g2,g3,g4,g5⟩:=(hi.blk b _ I:kT O b d0).cells Ka
     rw[hp]at g1
     cases g1
     obtain⟨v,h1,M⟩:=YF (c:=c) (blk:=blk) 0 hr g4 g5.1 (λj v hj=>by rw[XX g2]; simpa using hj)
     rw[Nat.zero_add]at h1
     exact wy.pure hi (by simp[zW,zQ,h1]) M
   ·exact h.elim
  ·exact h.elim
 ·rename_i b vi e idx off
  rw[rH]at h
  obtain⟨h,rfl⟩:=h
  split at h
  ·rename_i dD e' xs I
   cases he:decide (e'=e)with
   | false=>rw[he]at h; exact h.elim
   | true =>
    rw[he,cond_true]at h
    have IN:e'=e:=uB he
    subst IN
    obtain⟨⟨rfl,wM⟩,h⟩:=h
    split at h
    ·rename_i r hr
     cases h
     cases N _ rfl with
     | gG _ _ _ _ _ blk o hold hp =>
      obtain⟨n,p1,rfl⟩:=hp xs I wM
      obtain⟨bI,⟨Yh,_⟩ | ⟨pG,n',cs,T,g1,g2,g3,g4,gr,f,g5⟩⟩:=hi.blk b _ I
      ·grind
      ·rw[p1]at g1
       cases g1
       have hg:xs.getD idx (zb e')=xs[idx]:=by simp[zR,zP wM]
       rw[hg]at hr
       obtain⟨k1,k2⟩:=g5 idx wM
       obtain⟨v,h1,M⟩:=YF (c:=c) (blk:=blk) (idx*e'.size) hr (X0 k1) (rj _ _) (λj v hj=>by rw[XX g2]; exact k2 j v hj)
       exact wy.pure hi (by simp[zW,zQ,h1]) M
    ·exact h.elim
  ·exact h.elim
 ·exact absurd h zh
end
end Go.AM
namespace Go.AM
set_option linter.unusedSectionVars false
variable [yY]
section
variable {c:Ctx} {O:KS}
theorem Cd{s f o n:Nat}(h:Km c s f=some (o,n)):∃ fs fd,c.P.underlying s=some (.struct fs)/\fs[f]? = some fd/\te c fd.type=some n/\n≠0/\fd.offset=o:=by
 unfold Km at h
 split at h
 ·rename_i fs hu
  split at h
  ·rename_i fd hf
   split at h
   ·rename_i m hm
    cases I:zA m 0 with
    | true=>grind
    | false =>
     rw[I]at h
     cases h
     refine⟨fs,fd,hu,hf,hm,?_,rfl⟩
     intro e
     subst e
     cases I
   ·cases h
  ·cases h
 ·cases h
theorem Xq{s f o n blk p:Nat}(h:Km c s f=some (o,n))(w:World) :
  (qB s (.pointer (some ⟨blk,p,none⟩)) f).run c.P w=.ok (.pointer (some ⟨blk,p+o,none⟩)) w:=by
 obtain⟨fs,fd,h1,M,h3,h4,h5⟩:=Cd h
 simp[qB,run_underlying h1,M,zQ,fieldPlace,run_sizeOf h3,h4,addr_add]
theorem Yc:∀ (τ:Ty) (x:den τ) (n:Nat) {d:D} {o s:Nat} {cs:List Value},X1 τ x n=some (d,o,s)->Rc O.w O.ok τ x cs ->
  ∃ (σ:Ty) (y:den σ) (c2:List Value),d=.vA σ y/\Rc O.w O.ok σ y c2/\s=σ.size/\∀ j v,c2[j]? = some v->cs[o+j]? = some v
 | .cons a b,x,0,d,o,s,cs,h,hr=>by
  simp only[X1]at h
  cases h
  obtain⟨c1,c2,rfl,h1,M⟩:=hr.cons_inv
  grind
 | .cons a b,x,n+1,d,o,s,cs,h,hr=>by
  simp only[X1]at h
  split at h
  ·rename_i d' o' s' h'
   cases h
   obtain⟨c1,c2,rfl,h1,M⟩:=hr.cons_inv
   obtain⟨σ,y,c3,e1,e2,e3,e4⟩:=Yc b x.2 n h' M
   refine⟨σ,y,c3,e1,e2,e3,λj v hj => ?_⟩
   have:=h1.len
   grind
  ·cases h
 | .expr,.mk k (a,n,m,()) s l,i,d,o,z,cs,h,hr=>by
  obtain⟨c1,r1,rfl,h1,t1⟩:=hr.Ea.cons_inv
  obtain⟨c2,r2,rfl,M,t2⟩:=t1.cons_inv
  obtain⟨c3,r3,rfl,h3,t3⟩:=t2.cons_inv
  obtain⟨c4,r4,rfl,h4,t4⟩:=t3.cons_inv
  have e4:=t4.wb
  subst e4
  have l2:c2.length=3:=M.len
  obtain⟨v1,rfl⟩:=h1.single rfl
  obtain⟨v3,rfl⟩:=h3.single rfl
  obtain⟨v4,rfl⟩:=h4.single rfl
  match i,h with
  | 0,h=>simp only[X1]at h; cases h; exact⟨i64,_,_,rfl,h1,rfl,λj v hj=>by match j,hj with | 0,hj=>simpa using hj⟩
  | 1,h => 
   simp only[X1]at h; cases h
   refine⟨Bn,_,_,rfl,M,rfl,λj v hj => ?_⟩
   grind
  | 2,h =>
   simp only[X1]at h; cases h
   refine⟨.str,_,_,rfl,h3,rfl,λj v hj => ?_⟩
   grind
  | 3,h =>
   simp only[X1]at h; cases h
   refine⟨.sl .expr,_,_,rfl,h4,rfl,λj v hj => ?_⟩
   match j,hj with
   | 0,hj =>
    simp only[List.cons_append,List.nil_append,Nat.add_zero,List.getElem?_cons_succ]
    rw[List.getElem?_append_right (Z),l2]; simpa using hj
  | n+4,h=>simp[X1]at h
 | .int _,_,_,_,_,_,_,h,_ | .bool,_,_,_,_,_,_,h,_ | .str,_,_,_,_,_,_,h,_ | .sl _,_,_,_,_,_,_,h,_ | .nil,_,_,_,_,_,_,h,_=>by simp[X1]at h
theorem Ya{s f:Nat}{x:Option D}{v:Value}{d:Option D}{qm:St}(hi:Inv O)(N:∀ y,x=some y->RD O y v)(h:(qu (QZ c s f x) O.st).leads (d,qm)) :
  wy c.P (do zG (.value (<- qB s v f))) O d qm:=by
 unfold QZ at h
 split at h
 ·exact absurd h zh
 ·rename_i o n hf
  split at h
  ·rename_i τ y
   split at h
   ·rename_i d' o' n' JD
    cases I:zA o o'&&zA n n' with
    | false=>rw[I]at h; exact absurd h zh
    | true =>
     rw[I,cond_true,du]at h
     obtain⟨rfl,rfl⟩:=h
     simp only[zM]at I
     have e1:o=o':=zE I.1
     subst e1
     cases N _ rfl with
     | vA _ _ cs blk off j3 hr hc =>
      obtain⟨σ,z,c2,rfl,g1,g2,g3⟩:=Yc τ y f JD hr
      exact wy.pure hi (Xq hf O.w) (.vA σ z c2 blk (off+o) j3 g1 λj u hj=>xy)
   ·exact absurd h zh
  ·rename_i b off
   obtain⟨rfl,rfl⟩:=h
   cases N _ rfl with
   | ptr _ _ blk n d J hp=>exact wy.pure hi (Xq hf O.w) (.ptr b (off+o) blk n d J hp)
  ·rename_i b vi e idx off
   obtain⟨rfl,rfl⟩:=h
   cases N _ rfl with
   | gG _ _ _ _ _ blk p hold hp =>
    refine wy.pure hi (Xq hf O.w) (.gG b vi e idx (off+o) blk (p+o) hold λxs h1 M => ?_)
    grind
  ·exact absurd h zh
theorem ID{s f:Nat}{x:Option D}{v:Value}{d:Option D}{qm:St}(hi:Inv O)(N:∀ y,x=some y->RD O y v)(h:(qu (Ce c s f x) O.st).leads (d,qm)) :
  wy c.P (do zG (.value (<- qD s v f))) O d qm:=by
 unfold Ce at h
 split at h
 ·rename_i fs hu
  split at h
  ·rename_i fd hf
   split at h
   ·rename_i y
    obtain⟨r,hr,rfl,rfl⟩:=YE h
    cases hag:y.cE with
    | false=>grind
    | true =>
    rw[hag,cond_true]at hr
    have hy:=N _ rfl
    have ⟨vs,hv,hvs⟩:∃ vs,v=.agg vs/\wN O (xx y) vs.toList:=by
     have hfd:=cx hy (by cases y<;>simp[D.cE,D.bz]at hag ⊢)
     cases hy<;>simp[D.cE]at hag
     ·rename_i τ z cs hc
      exact⟨cs.toArray,by simp[pk,hag],by simpa[pk,hag,qA]using hfd⟩
     ·rename_i l vs R ho hh
      exact⟨vs.toArray,rfl,by simpa[qA]using hfd⟩
    subst hv
    rcases Pm hr hvs (cv hy)with⟨n,ha,hn,hle,hrd⟩ | ⟨u,ha,RP,hrd⟩
    ·refine wy.pure hi ?_ hrd
     simp only[qD,X,run_underlying hu,Y,hf,asAgg,zN,part,We ha,if_true,run_sizeOf hn]
     congr 2
     grind
    ·refine wy.pure hi ?_ hrd
     have:vs[fd.offset]? = some u:=by simpa using RP
     simp[qD,run_underlying hu,hf,asAgg,part,We ha,this]
   ·exact absurd h zh
  ·exact absurd h zh
 ·exact absurd h zh
theorem yJ{t e:Nat}(h:mU c t=some e):c.P.underlying t=some (.slice e):=by
 unfold mU at h
 grind
theorem kz{x:Option D}{k:IntKind}{n:Int}{v:Value}(h:asInt x=some (k,n))(N:∀ y,x=some y->RD O y v):v=.int k n:=by
 unfold asInt at h
 split at h
 ·cases h; exact(N _ rfl).dM
 ·cases h
theorem QG{x:Option D}{s:zx}{v:Value}(h:KU x=some s)(N:∀ y,x=some y->RD O y v):v=.string ⟨s.toArray⟩:=by
 unfold KU at h
 split at h
 ·cases h; exact(N _ rfl).jc
 ·cases h
theorem tK{x:Option D}{b:Bool}{v:Value}(h:asBool x=some b)(N:∀ y,x=some y->RD O y v):v=.bool b:=by
 unfold asBool at h
 split at h
 ·cases h; exact(N _ rfl).cp
 ·cases h
theorem getD_lt{α:Type}{l:List α}{i:Nat}(h:i<l.length)(d:α):zR l i d=l[i]:=xy
theorem QJ{a:Ty}(x:den a):(jR x:Option (den a))=some x:=by simp[jR]
theorem DI{w:World}{ok:Nat->Prop}:∀ (τ:Ty) (e:Ty) (n:Nat) (x:den τ) (cs:List Value) (i:Nat),DJ τ=some (e,n)->Rc w ok τ x cs->i<n ->
  ∃ c,Rc w ok e (Wv e τ x i) c/\∀ j v,c[j]? = some v->cs[i*e.size+j]? = some v
 | .cons a b,e,n,x,cs,i,ht,hr,hi=>by
  obtain⟨c1,c2,rfl,h1,M⟩:=hr.cons_inv
  have key:∀ m,(b=.nil/\m=0\/DJ b=some (a,m))->i<m+1->∃ c,Rc w ok a (Wv a (.cons a b) x i) c/\∀ j v,c[j]? = some v->(c1++c2)[i*a.size+j]? = some v:=by
   intro m hm hi
   cases i with
   | zero =>
    refine⟨c1,by simp only[Wv,QJ]; exact h1,λj v hj => ?_⟩
    grind
   | succ i =>
    rcases hm with⟨rfl,rfl⟩ | hm
    ·omega
    ·obtain⟨c,g1,g2⟩:=DI b a m x.2 c2 i hm M (Z)
     refine⟨c,g1,λj v hj => ?_⟩
     have R:=h1.len
     grind
  unfold DJ at ht
  split at ht
  ·cases ht; exact key 0 (.inl ⟨rfl,rfl⟩) (Z)
  ·grind
 | .int _,_,_,_,_,_,ht,_,_=>by cases ht
 | .bool,_,_,_,_,_,ht,_,_=>by cases ht
 | .str,_,_,_,_,_,ht,_,_=>by cases ht
 | .sl _,_,_,_,_,_,ht,_,_=>by cases ht
 | .nil,_,_,_,_,_,ht,_,_=>by cases ht
 | .expr,_,_,_,_,_,ht,_,_=>by cases ht
theorem Rd{t n e:Nat}(h:zaR c t=some (n,e)):c.P.underlying t=some (.array n e):=by
 unfold zaR at h
 grind
theorem H2{t:Nat}{x i:Option D}{k:IntKind}{n:Int}{v u:Value}{d:Option D}{qm:St}(hi:Inv O)(N:∀ y,x=some y->RD O y v)(hy:∀ y,i=some y->RD O y u)(J4:asInt i=some (k,n))
  (h:(qu (Ym c t x n) O.st).leads (d,qm)):wy c.P (do zG (.value (<- zO t v u))) O d qm:=by
 have RP:=kz J4 hy
 subst RP
 unfold Ym at h
 split at h
 ·rename_i m et τ y ha
  have hu:=Rd ha
  split at h
  ·rename_i e m' ML
   cases ht:bZ c et e&&zA m m' with
   | false=>rw[ht]at h; exact absurd h zh
   | true =>
    rw[ht,cond_true,yy]at h
    simp only[zM]at ht
    have:=zE ht.2
    subst this
    obtain⟨⟨h0,h1⟩,rfl,rfl⟩:=h
    obtain⟨hs,_⟩:=ke ht.1
    cases N _ rfl with
    | vA _ _ cs blk off j3 Ds hc =>
     obtain⟨cc,g1,g2⟩:=DI τ e m y cs n.toNat ML Ds (Z)
     refine wy.pure hi ?_ (.vA e _ cc blk (off+n.toNat*e.size) j3 g1 λj v hj=>xy)
     simp[zO,asIntOf,run_underlying hu,h0,h1,run_sizeOf hs,addr_add,zQ]
  ·exact absurd h zh
 ·exact absurd h zh
theorem Yl{t:Nat}{x i:Option D}{v u:Value}{d:Option D}{qm:St}(hi:Inv O)(N:∀ y,x=some y->RD O y v)(hy:∀ y,i=some y->RD O y u)
  (h:(qu (X3 c t x i) O.st).leads (d,qm)):wy c.P (do zG (.value (<- zO t v u))) O d qm:=by
 unfold X3 at h
 split at h
 ·rename_i k n het J4
  exact H2 hi N hy J4 h
 ·rename_i et k n het J4
  have hu:=yJ het
  have RP:=kz J4 hy
  subst RP
  split at h
  ·rename_i e l
   cases ht:bZ c et e with
   | false=>rw[ht]at h; exact absurd h zh
   | true =>
    rw[ht,cond_true,yy]at h
    obtain⟨⟨h0,h1⟩,rfl,rfl⟩:=h
    obtain⟨hs,_⟩:=ke ht
    have wM:n.toNat<V l:=Z
    rcases((N _ rfl).jG rfl).tB with⟨rfl,_⟩ | ⟨blk,off,cap,f,he,j3,jg,hh,hc⟩
    ·cases wM
    ·cases he
     rw[getD_lt wM]
     refine wy.pure hi ?_ (.vA e _ (f n.toNat) blk (off+n.toNat*e.size) j3 (hh _ wM) λj v hj=>hc _ wM j v hj)
     simp[zO,asIntOf,run_underlying hu,h0,h1,run_sizeOf hs,addr_add]
  ·rename_i e l ne
   cases ht:bZ c et e with
   | false=>rw[ht]at h; exact absurd h zh
   | true =>
    rw[ht,cond_true,yy]at h
    obtain⟨⟨h0,h1⟩,rfl,rfl⟩:=h
    obtain⟨hs,_⟩:=ke ht
    have wM:n.toNat<V l:=Z
    cases N _ rfl with
    | vz=>cases wM
    | tight _ _ _ blk off f kf j3 hh hc =>
     rw[getD_lt wM]
     refine wy.pure hi ?_ (.vA e _ (f n.toNat) blk (off+n.toNat*e.size) j3 (hh _ wM) λj v hj=>hc _ wM j v hj)
     simp[zO,asIntOf,run_underlying hu,h0,h1,run_sizeOf hs,addr_add]
  ·rename_i b vi e off len
   cases ht:bZ c et e with
   | false=>rw[ht]at h; exact absurd h zh
   | true =>
    rw[ht,cond_true,yy]at h
    obtain⟨⟨h0,h1⟩,rfl,rfl⟩:=h
    obtain⟨hs,_⟩:=ke ht
    cases N _ rfl with
    | ms _ _ _ _ _ cap a hold jg ha Ws hm =>
     cases a with
     | none=>grind
     | some p =>
      have hp:=Ws p rfl
      obtain⟨blk,o,sp⟩:=p
      subst hp
      refine wy.pure hi (v:=.pointer (some ⟨blk,o+n.toNat*e.size,none⟩)) ?_ (.gG b vi e (off+n.toNat) 0 blk _ hold λxs I wM => ?_)
      ·simp[zO,asIntOf,run_underlying hu,h0,h1,run_sizeOf hs,addr_add]
      ·obtain⟨hle,⟨_,_,hv,_⟩ | ⟨pG,n',o',VD,h3,h4,h5,h6,h7⟩⟩:=hm xs I
       ·cases hv
       ·grind
  ·exact absurd h zh
 ·exact absurd h zh
theorem Rh(s:zx){i:Nat}(h:i<s.length):(⟨s.toArray⟩:ByteArray)[i]? = some s[i]:=by
 have bI:(⟨s.toArray⟩:ByteArray).size=s.length:=rfl
 rw[getElem?_pos _ _ (xy)]
 rfl
theorem IY{t:Nat}{x i:Option D}{v u:Value}{d:Option D}{qm:St}(hi:Inv O)(N:∀ y,x=some y->RD O y v)(hy:∀ y,i=some y->RD O y u)
  (h:(qu (Ct c t x i) O.st).leads (d,qm)):wy c.P (do zG (.value (<- Instr.index t v u))) O d qm:=by
 unfold Ct at h
 split at h
 ·rename_i k n s J4 hs hu
  have RP:=kz J4 hy
  subst RP
  have hv:=QG hs N
  subst hv
  obtain⟨⟨h0,h1⟩,rfl,rfl⟩:=h
  have wM:n.toNat<s.length:=Z
  rw[getD_lt wM]
  exact wy.pure hi (by simp[Instr.index,asIntOf,run_underlying hu,h0,Rh s wM]) RD.int
 ·exact absurd h zh
def Jq(O:KS):Option (Option D)->Option Value->Prop
 | none,none=>True
 | some x,some v=>∀ y,x=some y->RD O y v
 | _,_=>False
theorem Y0{d n:Int}{x:Option (Option D)}{v:Option Value}(h:Rf d x=some n)(N:Jq O x v):(x=none/\v=none/\n=d)\/(x.isSome/\∃ k,v=some (.int k n)):=by
 cases x with
 | none=>cases v with
  | none=>exact .inl ⟨rfl,rfl,by simpa[Rf]using h.symm⟩
  | some v=>exact N.elim
 | some x=>cases v with
  | none=>exact N.elim
  | some v =>
   simp only[Rf]at h
   split at h
   ·rename_i k i hk; cases h; exact .inr ⟨rfl,k,by rw[kz hk N]⟩
   ·cases h
end
end Go.AM
namespace Go.AM
set_option linter.unusedSectionVars false
variable [yY]
section
variable {c:Ctx} {O:KS}
theorem dz{P:Program}{isS:Bool}{len cap:Nat}{lo hi mx:Option Value}{l h:Int}{m:Nat}
  (R:(lo=none/\l=0)\/∃ k,lo=some (.int k l)) (hh:(hi=none/\mx=none/\h=len)\/∃ k,hi=some (.int k h))
  (hm:(mx=none/\m=cap)\/∃ k,mx=some (.int k m)) (h0:0<=l) (h1:l<=h) (M:h<=m) (h3:m<=cap) (w:World) :
  (zU isS len cap lo hi mx).run P w=.ok (l.toNat,h.toNat,m) w:=by
 have hh0:(0:Int)<=h:=Z
 have GD:l<=(h.toNat:Int):=Z
 rcases R with⟨rfl,rfl⟩ | ⟨k1,rfl⟩<;>rcases hm with⟨rfl,rfl⟩ | ⟨k3,rfl⟩<;>rcases hh with⟨rfl,N,rfl⟩ | ⟨k2,rfl⟩ <;>
  first
   | (cases N; done)
   | (simp[zU,run_sliceBound, *]; done)
   | (simp[zU,run_sliceBound, *]; rw[run_sliceBound _ _ _ _ _ h0 GD]; rfl)
theorem Fu(s:zx)(l h:Int):(⟨s.toArray⟩:ByteArray).extract l.toNat h.toNat=⟨(fK l h s).toArray⟩:=by
 apply ByteArray.ext
 simp[fK,List.drop_take]
theorem KZ{n:Int}{x:Option (Option D)}{v:Option Value}(h:Rf 0 x=some n)(N:Jq O x v):(v=none/\n=0)\/∃ k,v=some (.int k n):=by
 rcases Y0 h N with⟨_,h1,M⟩ | ⟨_,h1⟩
 ·grind
 ·grind
theorem BW{d n:Int}{x:Option (Option D)}{v:Option Value}(h:Rf d x=some n)(N:Jq O x v):(v=none/\n=d)\/∃ k,v=some (.int k n):=by
 rcases Y0 h N with⟨_,h1,M⟩ | ⟨_,h1⟩
 ·grind
 ·grind
theorem Uq{v:Option Value}(h:Jq O none v):v=none:=by cases v with | none=>rfl | some _=>exact h.elim
theorem XI{e:Ty}{l:List (den e)}{lo hi:Int}(h0:0<=lo)(h1:lo<=hi)(M:hi<=(l.length:Int)) :
  (jJ lo hi l).length=hi.toNat-lo.toNat/\∀ i (Kt:i<(jJ lo hi l).length),∃ h:lo.toNat+i<l.length,(jJ lo hi l)[i]=l[lo.toNat+i]:=by
 have hlen:(jJ lo hi l).length=hi.toNat-lo.toNat:=by simp[jJ]; omega
 refine⟨hlen,λi Kt=>⟨Z,?_⟩⟩
 simp[jJ]
theorem LD{e:Ty}{l:List (den e)}{lo hi:Int}{blk off cap m:Nat}{f:Nat->List Value}(j3:O.ok blk)
  (hh:∀ i (hi:i<l.length),Rc O.w O.ok e l[i] (f i)) (hc:∀ i,i<l.length->∀ j v,(f i)[j]? = some v->O.w.cell? ⟨blk,off+i*e.size+j,none⟩=some v)
  (h0:0<=lo) (h1:lo<=hi) (M:hi<=(l.length:Int)) (hm:hi<=(m:Int)) (jg:m<=cap) :
  (∀ i (Kt:i<(jJ lo hi l).length),Rc O.w O.ok e (jJ lo hi l)[i] (f (lo.toNat+i))) /\
  (∀ i,i<(jJ lo hi l).length->∀ j v,(f (lo.toNat+i))[j]? = some v ->
   O.w.cell? ⟨blk,(if m=lo.toNat then off else off+lo.toNat*e.size)+i*e.size+j,none⟩=some v)/\(jJ lo hi l).length<=m-lo.toNat:=by
 obtain⟨R,hg⟩:=XI h0 h1 M
 refine⟨λi Kt => ?_,λi Kt j v hj => ?_,Z⟩
 ·obtain⟨h3,h4⟩:=hg i Kt
  rw[h4]; exact hh _ h3
 ·obtain⟨h3,h4⟩:=hg i Kt
  have:=hc _ h3 j v hj
  rw[if_neg (Z)]
  rw[Nat.add_mul,<- Nat.add_assoc]at this
  exact this
theorem LF{t:Nat}{x:Option D}{lo hi mx:Option (Option D)}{v:Value}{vl vh vm:Option Value}{d:Option D}{qm:St}(B:Inv O)(N:∀ y,x=some y->RD O y v)
  (hlo:Jq O lo vl) (hhi:Jq O hi vh) (hmx:Jq O mx vm)
  (h:(qu (D2 c t x lo hi mx) O.st).leads (d,qm)):wy c.P (do zG (.value (<- zH t v vl vh vm))) O d qm:=by
 unfold D2 at h
 split at h
 ·rename_i s
  obtain⟨s,rfl⟩:∃ s':zx,s=s':=⟨s,rfl⟩
  split at h
  ·rename_i l hh hu R hh'
   rw[yy]at h
   obtain⟨⟨h0,h1,M⟩,rfl,rfl⟩:=h
   have hv:=(N _ rfl).jc
   subst hv
   have e1:=Uq hmx
   subst e1
   refine wy.pure B ?_ RD.str
   have bI:(⟨s.toArray⟩:ByteArray).size=s.length:=rfl
   have I:=dz (P:=c.P) (isS:=false) (len:=s.length) (cap:=s.length) (mx:=none) (m:=s.length) (KZ R hlo)
    (rP (BW hh' hhi) (λh=>⟨h.1,rfl,h.2⟩) id) (.inl ⟨rfl,rfl⟩) h0 h1 M (zF _) O.w
   simp only[zH,X,run_underlying hu,Y,zL,Option.isSome_none,Bool.false_eq_true,if_false,bI,I,Fu]
   rfl
  ·exact absurd h zh
 ·rename_i e s
  split at h
  ·rename_i et l hh het R hh'
   have hu:=yJ het
   cases ht:bZ c et e with
   | false=>rw[ht]at h; exact absurd h zh
   | true =>
    obtain⟨hs,_⟩:=ke ht
    rw[ht,cond_true]at h
    split at h
    ·rw[yy]at h
     obtain⟨⟨h0,h1,M⟩,rfl,rfl⟩:=h
     have e1:=Uq hmx
     subst e1
     have GW:=KZ R hlo
     have GU:(vh=none/\(none:Option Value)=none/\hh=(s.length:Int))\/∃ k,vh=some (.int k hh):=rP (BW hh' hhi) (λh=>⟨h.1,rfl,h.2⟩) id
     rcases((N _ rfl).jG rfl).tB with⟨rfl,a0,he⟩ | ⟨blk,off,cap,f,he,j3,jg,RE,hc2⟩
     ·cases he
      simp only[zY,zT]at M
      have I:=dz (P:=c.P) (isS:=true) (len:=0) (cap:=0) (mx:=none) (m:=0) GW GU (.inl ⟨rfl,rfl⟩) h0 h1 M (zF _) O.w
      have e0:l=0:=Z
      have e2:hh=0:=Z
      subst e0 e2
      refine wy.pure B (v:=.slice a0 0 0) ?_ (.tY rfl (.lB e a0))
      simp[zH,run_underlying hu,zL,I,run_sizeOf hs]
     ·cases he
      obtain⟨k1,k2,k3⟩:=LD (lo:=l) (hi:=hh) (cap:=cap) (m:=cap) j3 RE hc2 h0 h1 M (Z) (zF _)
      have I:=dz (P:=c.P) (isS:=true) (len:=s.length) (cap:=cap) (mx:=none) (m:=cap) GW GU (.inl ⟨rfl,rfl⟩) h0 h1 (Z) (zF _) O.w
      have hlen:=(XI h0 h1 M).1
      refine wy.pure B ?_ (.tY rfl (.sl e (jJ l hh s) blk _ (cap-l.toNat) _ j3 k3 k1 k2))
      simp only[zH,X,run_underlying hu,Y,zL,I,run_sizeOf hs,zN,hlen]
      congr 3
      split<;>simp[addr_add]
    ·split at h
     ·rename_i mx m km mi hm'
      cases hhs:hi.isSome with
      | false=>rw[hhs]at h; exact absurd h zh
      | true =>
      rw[hhs,cond_true,yy]at h
      obtain⟨⟨h0,h1,rfl,M⟩,rfl,rfl⟩:=h
      obtain⟨vm,rfl⟩:∃ u,vm=some u:=by cases vm with | none=>exact hmx.elim | some u=>exact⟨u,rfl⟩
      have hvm:=kz hm' hmx
      subst hvm
      have GW:=KZ R hlo
      have GU:(vh=none/\(some (Value.int km hh):Option Value)=none/\hh=(s.length:Int))\/∃ k,vh=some (.int k hh):=by
       rcases Y0 hh' hhi with⟨g1,_⟩ | ⟨_,g⟩
       ·rw[g1]at hhs; cases hhs
       ·exact .inr g
      have em:((hh.toNat:Nat):Int)=hh:=Z
      rcases((N _ rfl).jG rfl).tB with⟨rfl,a0,he⟩ | ⟨blk,off,cap,f,he,j3,jg,RE,hc2⟩
      ·cases he
       simp only[zY,zT]at M
       have I:=dz (P:=c.P) (isS:=true) (len:=0) (cap:=0) (mx:=some (.int km hh)) (m:=hh.toNat) GW GU (.inr ⟨km,by rw[em]⟩) h0 h1 (Z) (Z) O.w
       have e0:l=0:=Z
       have e2:hh=0:=Z
       subst e0 e2
       refine wy.pure B (v:=.slice a0 0 0) ?_ (.vz e a0)
       simp[zH,run_underlying hu,zL,I,run_sizeOf hs]
      ·cases he
       obtain⟨k1,k2,k3⟩:=LD (lo:=l) (hi:=hh) (cap:=cap) (m:=hh.toNat) j3 RE hc2 h0 h1 M (Z) (Z)
       have I:=dz (P:=c.P) (isS:=true) (len:=s.length) (cap:=cap) (mx:=some (.int km hh)) (m:=hh.toNat) GW GU (.inr ⟨km,by rw[em]⟩) h0 h1 (Z) (Z) O.w
       have hlen:=(XI h0 h1 M).1
       refine wy.pure B ?_ (.tight e (jJ l hh s) false blk _ _ nofun j3 k1 k2)
       simp only[zH,X,run_underlying hu,Y,zL,I,run_sizeOf hs,zN,hlen]
       congr 3
       split<;>simp[addr_add]
     ·exact absurd h zh
  ·exact absurd h zh
 ·rename_i e s ne
  split at h
  ·rename_i et l hh het R hh'
   have hu:=yJ het
   cases ht:bZ c et e with
   | false=>rw[ht]at h; exact absurd h zh
   | true =>
    obtain⟨hs,_⟩:=ke ht
    rw[ht,cond_true,yy]at h
    obtain⟨⟨h0,h1,M⟩,rfl,rfl⟩:=h
    have e1:=Uq hmx
    subst e1
    have GW:=KZ R hlo
    have GU:(vh=none/\(none:Option Value)=none/\hh=(s.length:Int))\/∃ k,vh=some (.int k hh):=rP (BW hh' hhi) (λh=>⟨h.1,rfl,h.2⟩) id
    cases N _ rfl with
    | vz _ a0 =>
     simp only[zY,zT]at M
     have I:=dz (P:=c.P) (isS:=true) (len:=0) (cap:=0) (mx:=none) (m:=0) GW GU (.inl ⟨rfl,rfl⟩) h0 h1 M (zF _) O.w
     have e0:l=0:=Z
     have e2:hh=0:=Z
     subst e0 e2
     refine wy.pure B (v:=.slice a0 0 0) ?_ (.tY rfl (.lB e a0))
     simp[zH,run_underlying hu,zL,I,run_sizeOf hs]
    | tight _ _ _ blk off f kf j3 RE hc2 =>
     obtain⟨k1,k2,k3⟩:=LD (lo:=l) (hi:=hh) (cap:=s.length) (m:=s.length) j3 RE hc2 h0 h1 M (Z) (zF _)
     have I:=dz (P:=c.P) (isS:=true) (len:=s.length) (cap:=s.length) (mx:=none) (m:=s.length) GW GU (.inl ⟨rfl,rfl⟩) h0 h1 (Z) (zF _) O.w
     have hlen:=(XI h0 h1 M).1
     refine wy.pure B ?_ (.tY rfl (.sl e (jJ l hh s) blk _ (s.length-l.toNat) _ j3 k3 k1 k2))
     simp only[zH,X,run_underlying hu,Y,zL,I,run_sizeOf hs,zN,hlen]
     congr 3
     split<;>simp[addr_add]
  ·exact absurd h zh
 ·rename_i b vi e off len
  split at h
  ·rename_i et l hh het R hh'
   have hu:=yJ het
   cases ht:bZ c et e with
   | false=>rw[ht]at h; exact absurd h zh
   | true =>
    obtain⟨hs,_⟩:=ke ht
    rw[ht,cond_true,yy]at h
    obtain⟨⟨h0,h1,M⟩,rfl,rfl⟩:=h
    have e1:=Uq hmx
    subst e1
    have GW:=KZ R hlo
    have GU:(vh=none/\(none:Option Value)=none/\hh=(len:Int))\/∃ k,vh=some (.int k hh):=rP (BW hh' hhi) (λh=>⟨h.1,rfl,h.2⟩) id
    cases N _ rfl with
    | ms _ _ _ _ _ cap a hold jg ha Ws hm =>
     have I:=dz (P:=c.P) (isS:=true) (len:=len) (cap:=cap) (mx:=none) (m:=cap) GW GU (.inl ⟨rfl,rfl⟩) h0 h1 (Z) (zF _) O.w
     refine wy.pure B (v:=.slice (if cap=l.toNat then a else a.map (·.add (l.toNat*e.size))) (hh.toNat-l.toNat) (cap-l.toNat)) ?_ (.ms b vi e _ _ _ _ hold (Z) ?_ ?_ ?_)
     ·simp only[zH,X,run_underlying hu,Y,zL,I,run_sizeOf hs,zN]
     ·intro hn
      split at hn
      ·have:=ha hn; omega
      ·cases a with | none=>have:=ha rfl; omega | some p=>cases hn
     ·intro p hp
      split at hp
      ·exact Ws p hp
      ·cases a with
       | none=>cases hp
       | some q =>
        obtain⟨q1,q2,q3⟩:=q
        have:=Ws _ rfl
        simp only at this
        subst this
        simp only[Option.map_some,addr_add,Option.some.injEq]at hp
        subst hp; rfl
     ·intro xs Yj
      obtain⟨hle,⟨rfl,rfl,hv,hp⟩ | ⟨pG,n',o',VD,h3,h4,h5,h6,h7⟩⟩:=hm xs Yj
      ·cases hv
       have e0:l=0:=Z
       have e2:hh=0:=Z
       subst e0 e2
       exact⟨qz,.inl ⟨rfl,rfl,rfl,hp⟩⟩
      ·cases h4
       refine⟨Z,.inr ?_⟩
       by_cases Ks:cap=l.toNat
       ·refine⟨pG,n',o',0,h3,?_,Z,?_,.inl rfl⟩
        ·simp[Ks]
        ·have:(off+l.toNat+0)=off+cap:=Z
         rw[this]; exact h6
       ·refine⟨pG,n',o'+l.toNat*e.size,cap-l.toNat,h3,?_,Z,?_,.inr ?_⟩
        ·simp[Ks,addr_add]
        ·have:off+l.toNat+(cap-l.toNat)=off+cap:=Z
         rw[this]; exact h6
        ·rcases h7 with h7 | h7
         ·omega
         ·rw[h7,Nat.add_mul]
  ·exact absurd h zh
 ·exact absurd h zh
end
end Go.AM
namespace Go.AM
set_option linter.unusedSectionVars false
variable [yY]
section
variable {c:Ctx} {O:KS}
theorem QX(op:BinOp)(t:Nat)(x y:Operand)(k k':IntKind)(a b:Int)(P:Program)(w:World):(eqGuard op t x y (.int k a) (.int k' b)).run P w=.ok () w:=by
 unfold eqGuard; split<;>simp
theorem E7(op:BinOp)(t:Nat)(x y:Operand)(a b:ByteArray)(P:Program)(w:World):(eqGuard op t x y (.string a) (.string b)).run P w=.ok () w:=by
 unfold eqGuard; split<;>simp
theorem Ca(op:BinOp)(t:Nat)(x y:Operand)(a b:Bool)(P:Program)(w:World):(eqGuard op t x y (.bool a) (.bool b)).run P w=.ok () w:=by
 unfold eqGuard; split<;>simp
theorem tZ{k:IntKind}{n:Int}{st qm:St}{d:Option D}:(qu (ib k n) st).leads (d,qm)↔d=some (.qj (.int k) n)/\qm=st:=du
theorem Xa{b:Bool}{st qm:St}{d:Option D}:(qu (bb b) st).leads (d,qm)↔d=some (.qj .bool b)/\qm=st:=du
theorem Ig{op:BinOp}{k:IntKind}{a b:Int}{d:Option D}{st qm:St}{t:Nat}(h:(qu (Ie op k a b) st).leads (d,qm))(hs:Kw op=false) :
  ∃ y v,d=some y/\qm=st/\(binOp op t (.int k a) (.int k b)).run c.P O.w=.ok v O.w/\RD O y v:=by
 cases op<;>simp only[Ie]at h<;>try (exact absurd h zh)
 all_goals first
  | (rw[tZ]at h; obtain⟨rfl,rfl⟩:=h; exact⟨_,_,rfl,rfl,by simp[binOp,Op.intArith,Op.intBits,QH],RD.int⟩)
  | (rw[Xa]at h; obtain⟨rfl,rfl⟩:=h; exact⟨_,_,rfl,rfl,by simp[binOp,Op.intCmp],RD.bool⟩)
  | (rw[yy]at h; obtain⟨I,rfl,rfl⟩:=h; exact⟨_,_,rfl,rfl,by simp[binOp,Op.intDiv,I],RD.int⟩)
theorem Gj(s:zx):(⟨s.toArray⟩:ByteArray).toList=s:=qz
theorem Ij{op:BinOp}{a b:zx}{d:Option D}{st qm:St}{t:Nat}(h:(qu (Ii op a b) st).leads (d,qm))(hs:Kw op=false) :
  ∃ y v,d=some y/\qm=st/\(binOp op t (.string ⟨a.toArray⟩) (.string ⟨b.toArray⟩)).run c.P O.w=.ok v O.w/\RD O y v:=by
 have bI:∀ s:zx,(⟨s.toArray⟩:ByteArray).size=s.length:=λ_=>rfl
 cases op<;>simp only[Ii]at h<;>try (exact absurd h zh)
 case add =>
  rw[yy]at h; obtain⟨I,rfl,rfl⟩:=h
  refine⟨_,_,rfl,rfl,?_,RD.str⟩
  have e:(⟨a.toArray⟩++⟨b.toArray⟩:ByteArray)=⟨(cat a b).toArray⟩:=by
   rfl
  have hn:¬ (IntKind.i64.max<((a.length+b.length:Nat):Int)):=by
   have:IntKind.i64.max=9223372036854775807:=xn
   omega
  simp only[binOp,Op.stringOp,bI,hn]
  rfl
 all_goals (rw[Xa]at h; obtain⟨rfl,rfl⟩:=h; exact⟨_,_,rfl,rfl,by simp[binOp,Op.stringOp,wL,strLt],RD.bool⟩)
theorem IA{P:Program}{t:Nat}(hu:P.underlying t=some .bool)(a b:Bool)(w:World):(Op.equal t (.bool a) (.bool b)).run P w=.ok (a==b) w:=by
 show(qC (9999+1) t _ _).run P w=_
 rw[qC]
 simp[run_underlying hu]
theorem LB{a:Ty}{t:Nat}(h:z8K c a t=true):(∃ k,a=.int k/\c.P.underlying t=some (.int k))\/(a=.bool/\c.P.underlying t=some .bool)\/(a=.str/\c.P.underlying t=some .string):=by
 unfold z8K at h
 grind
theorem Lg{P:Program}{t:Nat}{u:TypeDesc}(h:P.underlying t=some u)(hn:(match u with | .struct _ | .array _ _=>true | _=>false)=false)(w:World):(isAgg t).run P w=.ok false w:=by
 simp only[isAgg,X,run_underlying h]
 cases u<;>first | rfl | cases hn
theorem mh{P:Program}{t:Nat}{u:TypeDesc}(h:P.underlying t=some u)(hn:(match u with | .struct _ | .array _ _=>true | _=>false)=false)(pre:List Value)(v:Value)(cs:List Value)(w:World) :
  (part t (pre++v::cs).toArray pre.length).run P w=.ok v w:=by
 simp only[part,X,Lg h hn]
 simp
theorem VR{w:World}{ok:Nat->Prop}(dp:Nat):∀ (τ:Ty) (a b:den τ) (off:Nat) (fs:List Field) (pre G5 cs mz:List Value),VU c τ off fs=true->Rc w ok τ a cs->Rc w ok τ b mz->pre.length=off->G5.length=off ->
  (zZ (dp+1) (pre++cs).toArray (G5++mz).toArray fs).run c.P w=.ok (eqT τ a b) w
 | .nil,_,_,_,fs,pre,G5,cs,mz,h,_,_,_,_=>by
  cases fs with
  | nil=>rfl
  | cons f fs=>cases h
 | .cons a r,x,y,off,fs,pre,G5,cs,mz,h,N,hy,hp,hp'=>by
  cases fs with
  | nil=>cases h
  | cons f fs =>
   have h:(decide (f.name ≠ "_")&&(zA f.offset off&&(z8K c a f.type&&VU c r (off+1) fs)))=true:=h
   simp only[zM,decide_eq_true_eq]at h
   obtain⟨h1,M,h3,h4⟩:=h
   have M:=zE M
   obtain⟨c1,c2,rfl,g1,g2⟩:=N.cons_inv
   obtain⟨e1,e2,rfl,k1,k2⟩:=hy.cons_inv
   have ih:=λv v'=>VR dp r x.2 y.2 (off+1) fs (pre++[v]) (G5++[v']) c2 e2 h4 g2 k2 (by simp[hp]) (by simp[hp'])
   have fin:∀ (v v':Value) (q:Bool),c1=[v]->e1=[v']->(part f.type (pre++v::c2).toArray f.offset).run c.P w=.ok v w->(part f.type (G5++v'::e2).toArray f.offset).run c.P w=.ok v' w->(qC (dp+1) f.type v v').run c.P w=.ok q w->eqT a x.1 y.1=q ->
     (zZ (dp+1) (pre++(c1++c2)).toArray (G5++(e1++e2)).toArray (f::fs)).run c.P w=.ok (eqT (.cons a r) x y) w:=by
    rintro v v' q rfl rfl p1 p2 p3 p4
    show(zZ (dp+1) (pre++v::c2).toArray (G5++v'::e2).toArray (f::fs)).run c.P w=.ok (eqT a x.1 y.1&&eqT r x.2 y.2) w
    rw[zZ,if_pos h1]
    simp only[X,p1,p2,p3,Y]
    rw[p4]
    cases q with
    | false=>rfl
    | true =>
     grind
   subst hp
   rcases LB h3 with⟨k,rfl,hu⟩ | ⟨rfl,hu⟩ | ⟨rfl,hu⟩
   ·exact fin _ _ _ g1.dM k1.dM (by rw[M]; exact mh hu rfl pre _ c2 w) (by rw[M,<- hp']; exact mh hu rfl G5 _ e2 w) (run_equalIn_int w dp _ k k _ _ hu) rfl
   ·exact fin _ _ _ g1.cp k1.cp (by rw[M]; exact mh hu rfl pre _ c2 w) (by rw[M,<- hp']; exact mh hu rfl G5 _ e2 w) (run_equalIn_bool' w dp _ _ _ hu) rfl
   ·refine fin _ _ _ g1.jc k1.jc (by rw[M]; exact mh hu rfl pre _ c2 w) (by rw[M,<- hp']; exact mh hu rfl G5 _ e2 w) (run_equalIn_string w dp _ _ _ hu) ?_
    rw[Gj,Gj]
    rfl
 | .int _,_,_,_,_,_,_,_,_,h,_,_,_,_=>by simp[VU]at h
 | .bool,_,_,_,_,_,_,_,_,h,_,_,_,_=>by simp[VU]at h
 | .str,_,_,_,_,_,_,_,_,h,_,_,_,_=>by simp[VU]at h
 | .sl _,_,_,_,_,_,_,_,_,h,_,_,_,_=>by simp[VU]at h
 | .expr,_,_,_,_,_,_,_,_,h,_,_,_,_=>by simp[VU]at h
theorem Iz{op:BinOp}{t:Nat}{px py:Operand}{x y:Option D}{v u:Value}{d:Option D}{qm:St}(B:Inv O)(N:∀ z,x=some z->RD O z v)(hy:∀ z,y=some z->RD O z u)
  (h:(qu (TV c op t x y) O.st).leads (d,qm)):wy c.P (do zG (.value (<- (do eqGuard op t px py v u; binOp op t v u)))) O d qm:=by
 unfold TV at h
 split at h
 ·rename_i τ a σ b
  split at h
  ·rename_i b' I
   unfold jR at I
   split at I
   ·rename_i e
    subst e
    injection I with I
    subst I
    cases hg:σ.isAgg&&Gk c σ t with
    | false=>rw[hg]at h; exact absurd h zh
    | true =>
     rw[hg,cond_true]at h
     rw[zM]at hg
     obtain⟨hag,hso⟩:=hg
     unfold Gk at hso
     split at hso
     ·rename_i fs hu
      simp at hso
      obtain⟨f1,f2,f3⟩:=hso
      have hfo:c.P.fieldsOf t=fs:=by unfold Program.fieldsOf; rw[hu]
      cases N _ rfl with
      | qj _ _ cs g1 =>
      cases hy _ rfl with
      | qj _ _ mz g2 =>
       have e1:pk σ cs=.agg cs.toArray:=by unfold pk; rw[if_pos hag]
       have e2:pk σ mz=.agg mz.toArray:=by unfold pk; rw[if_pos hag]
       have hr:=VR (c:=c) 9998 σ a b 0 fs.toList [] [] cs mz f1 g1 g2 rfl rfl
       have hq:(qC 10000 t (.agg cs.toArray) (.agg mz.toArray)).run c.P O.w=.ok (eqT σ a b) O.w:=by
        rw[show(10000:Nat)=9999+1 from rfl,run_equalIn_agg O.w 9999 t _ _ (xy) f2,hfo]
        exact hr
       rw[e1,e2]
       cases op<;>try (exact absurd h zh)
       ·rw[Xa]at h; obtain⟨rfl,rfl⟩:=h
        refine wy.pure B ?_ RD.bool
        simp only[X,run_eqGuard_agg O.w _ t px py _ _ f3,Y,run_eql_struct,hq]
       ·rw[Xa]at h; obtain⟨rfl,rfl⟩:=h
        refine wy.pure B ?_ RD.bool
        simp only[X,run_eqGuard_agg O.w _ t px py _ _ f3,Y,run_neq_struct,hq]
     ·cases hso
   ·cases I
  ·exact absurd h zh
 ·exact absurd h zh
theorem KX{op:BinOp}{t:Nat}{px py:Operand}{x y:Option D}{v u:Value}{d:Option D}{qm:St}(B:Inv O)(N:∀ z,x=some z->RD O z v)(hy:∀ z,y=some z->RD O z u)
  (h:(qu (KW c op t x y) O.st).leads (d,qm)):wy c.P (do zG (.value (<- (do eqGuard op t px py v u; binOp op t v u)))) O d qm:=by
 unfold KW at h
 split at h
 ·rename_i k a k' b hk Ku
  have:=kz hk N
  subst this
  have:=kz Ku hy
  subst this
  split at h
  ·rw[yy]at h
   obtain⟨I,rfl,rfl⟩:=h
   refine wy.pure B ?_ RD.int
   simp only[X,QX,Y,binOp,Op.shift,if_neg (show ¬ b<0 by omega)]
   rfl
  ·rw[yy]at h
   obtain⟨I,rfl,rfl⟩:=h
   refine wy.pure B ?_ RD.int
   simp only[X,QX,Y,binOp,Op.shift,if_neg (show ¬ b<0 by omega)]
   rfl
  ·rename_i n1 n2
   cases he:decide (k=k')with
   | false=>rw[he]at h; exact absurd h zh
   | true =>
    have IN:=uB he
    subst IN
    rw[he,cond_true]at h
    obtain⟨y',v',rfl,rfl,h1,M⟩:=Ig (c:=c) (O:=O) (t:=t) h (by cases op<;>first | rfl | (exact absurd rfl n1) | (exact absurd rfl n2))
    exact wy.pure B (by simp only[X,QX,Y,h1]) M
 ·split at h
  ·rename_i a b ha I
   have:=QG ha N
   subst this
   have:=QG I hy
   subst this
   cases hs:Kw op with
   | true=>rw[hs]at h; exact absurd h zh
   | false =>
    rw[hs,cond_false]at h
    obtain⟨y',v',rfl,rfl,h1,M⟩:=Ij (c:=c) (O:=O) (t:=t) h hs
    exact wy.pure B (by simp only[X,E7,Y,h1]) M
  ·split at h
   ·rename_i a b hu ha I
    have:=tK ha N
    subst this
    have:=tK I hy
    subst this
    cases op<;>simp only[TX]at h<;>try (exact absurd h zh)
    all_goals
     rw[Xa]at h; obtain⟨rfl,rfl⟩:=h
     refine wy.pure B ?_ RD.bool
     simp only[X,Ca,Y,binOp,IA hu,zN]
   ·exact Iz B N hy h
theorem z8U{op:UnOp}{x:Option D}{v:Value}{d:Option D}{qm:St}(B:Inv O)(N:∀ z,x=some z->RD O z v)
  (h:(qu (z3h op x) O.st).leads (d,qm)):wy c.P (do zG (.value (<- Op.unary op v))) O d qm:=by
 unfold z3h at h
 split at h
 ·split at h
  ·rename_i k n hk
   have:=kz hk N
   subst this
   obtain⟨rfl,rfl⟩:=h
   exact wy.pure B (by rfl) RD.int
  ·exact absurd h zh
 ·split at h
  ·rename_i b I
   have:=tK I N
   subst this
   obtain⟨rfl,rfl⟩:=h
   exact wy.pure B (by rfl) RD.bool
  ·exact absurd h zh
 ·split at h
  ·rename_i k n hk
   have:=kz hk N
   subst this
   obtain⟨rfl,rfl⟩:=h
   exact wy.pure B (by rfl) RD.int
  ·exact absurd h zh
 ·exact absurd h zh
theorem z6i{t ty:Nat}{ts:Array Nat}{x:Option D}{v:Value}{vs:Array Value}{d:Option D}{qm:St}(B:Inv O)(N:∀ z,x=some z->RD O z v)(ht:ts[0]? = some t)(hv:vs[0]? = some v)
  (h:(qu (z1c c t x) O.st).leads (d,qm)):wy c.P (do zG (.value (<- zV ts ty vs))) O d qm:=by
 unfold z1c at h
 split at h
 ·rename_i e hu
  have key:∀ (n:Nat) (a:Option Addr) (cap:Nat),v=.slice a n cap->d=some (.qj (.int .i64) (n:Int))->qm=O.st->wy c.P (do zG (.value (<- zV ts ty vs))) O d qm:=by
   rintro n a cap rfl rfl rfl
   exact wy.pure B (by simp[zV,ht,hv,run_underlying hu,goInt]) RD.int
  split at h
  ·rename_i e' l
   rw[tZ]at h
   rcases((N _ rfl).jG rfl).tB with⟨rfl,a0,he⟩ | ⟨blk,off,cap,f,he,_⟩
   ·grind
   ·grind
  ·rename_i e' l ne
   rw[tZ]at h
   cases N _ rfl with
   | vz _ a0=>grind
   | tight=>grind
  ·rw[tZ]at h
   cases N _ rfl
   grind
  ·rw[tZ]at h
   cases N _ rfl
   grind
  ·exact absurd h zh
 ·rename_i hu
  split at h
  ·rename_i s hs
   have:=QG hs N
   subst this
   obtain⟨rfl,rfl⟩:=h
   have bI:(⟨s.toArray⟩:ByteArray).size=s.length:=rfl
   exact wy.pure B (by simp only[zV,ht,hv,X,run_underlying hu,Y,goInt,bI,zN]) RD.int
  ·exact absurd h zh
 ·exact absurd h zh
theorem L9{f:Int->Int->Int}{g:Value->Value->Sem Value}{P:Program}(hg:∀ k k' a b,(g (.int k a) (.int k' b)).run P O.w=.ok (.int k (f a b)) O.w){x y:Option D}{v u:Value}{d:Option D}{qm:St}
  (B:Inv O) (N:∀ z,x=some z->RD O z v) (hy:∀ z,y=some z->RD O z u) (h:(qu (YN f [x,y]) O.st).leads (d,qm)) :
  ∃ r,(g v u).run P O.w=.ok r O.w/\qm=O.st/\∀ d',d=some d'->RD O d' r:=by
 unfold YN at h
 simp only at h
 split at h
 ·rename_i k a k' b hk Ku
  have:=kz hk N
  subst this
  have:=kz Ku hy
  subst this
  cases he:decide (k=k')with
  | false=>rw[he]at h; exact absurd h zh
  | true =>
   rw[he,cond_true,tZ]at h
   obtain⟨rfl,rfl⟩:=h
   exact⟨_,hg k k' a b,rfl,λd' he=>by cases he; exact RD.int⟩
 ·exact absurd h zh
theorem Cc{x:Option D}{i:Nat}{v:Value}{d:Option D}{qm:St}(B:Inv O)(N:∀ z,x=some z->RD O z v)
  (h:(qu (J1 x i) O.st).leads (d,qm)):wy c.P (do zG (.value (<- Instr.extract v i))) O d qm:=by
 unfold J1 at h
 split at h
 ·rename_i vs
  obtain⟨y,hy,rfl,rfl⟩:=YE h
  cases N _ rfl with
  | eD _ us R hh =>
   obtain⟨u,h1,M⟩:=wN.get (⟨R,hh⟩:wN O vs us) hy
   exact wy.pure B (by simp[Instr.extract,h1]) M
 ·exact absurd h zh
theorem ov:∀ {l:List (Option D)} {ds:List D},gA l=some ds->l=ds.map some
 | [],ds,h=>by simp[gA]at h; subst h; rfl
 | some d::r,ds,h=>by
  simp only[gA]at h
  split at h
  ·rename_i l R; cases h; simp[ov R]
  ·cases h
 | none::r,ds,h=>by simp[gA]at h
theorem fA{l:List (Option D)}{ds:List D}{vs:List Value}(h:gA l=some ds)(R:l.length=vs.length)
  (hr:∀ (i:Nat) (d:D) (v:Value),l[i]? = some (some d)->vs[i]? = some v->RD O d v):wN O ds vs:=by
 have:=ov h
 subst this
 refine⟨xy,λi h1 M=>hr i _ _ ?_ (zP M)⟩
 simp
end
end Go.AM
namespace Go.AM
namespace T
variable {α β γ:Type}
theorem ma{t:T α}{x y:α}(h:t.leads x)(k:t.leads y):x=y:=by
 induction t with
 | ret a=>exact h.symm.trans k
 | ite b p q ip iq =>
  rcases h with⟨h1,h⟩ | ⟨h1,h⟩<;>rcases k with⟨k1,k⟩ | ⟨k1,k⟩
  ·grind
  ·grind
  ·grind
  ·grind
 | W p t ih=>exact ih h.2 k.2
 | fail=>exact h.elim
theorem zd{t:T α}{f:α->T β}{x:β}:(t.bind f).leads x↔∃ a,t.leads a/\(f a).leads x:=by
 induction t with
 | ret a=>exact⟨λh=>⟨a,rfl,h⟩,λ⟨b,h,k⟩=>by cases h; exact k⟩
 | ite b p q ip iq =>
  constructor
  ·rintro(⟨h1,h⟩ | ⟨h1,h⟩)
   ·obtain⟨a,k1,k2⟩:=ip.1 h; exact⟨a,.inl ⟨h1,k1⟩,k2⟩
   ·obtain⟨a,k1,k2⟩:=iq.1 h; exact⟨a,.inr ⟨h1,k1⟩,k2⟩
  ·rintro⟨a,⟨h1,k1⟩ | ⟨h1,k1⟩,k2⟩
   ·exact .inl ⟨h1,ip.2 ⟨a,k1,k2⟩⟩
   ·exact .inr ⟨h1,iq.2 ⟨a,k1,k2⟩⟩
 | W p t ih =>
  constructor
  ·rintro⟨h1,h⟩; obtain⟨a,k1,k2⟩:=ih.1 h; exact⟨a,⟨h1,k1⟩,k2⟩
  ·rintro⟨a,⟨h1,k1⟩,k2⟩; exact⟨h1,ih.2 ⟨a,k1,k2⟩⟩
 | fail=>exact⟨λh=>h.elim,λ⟨_,h,_⟩=>h.elim⟩
open Classical in
noncomputable def run:T α->Option α
 | ret a=>some a
 | ite b t e=>bif b then t.run else e.run
 | W p t=>if p then t.run else none
 | fail=>none
@[simp] theorem xz(a:α):(ret a).run=some a:=rfl
@[simp] theorem zkP:(fail:T α).run=none:=rfl
theorem run_ite(b:Bool)(t e:T α):(ite b t e).run=if b=true then t.run else e.run:=by cases b<;>rfl
@[simp] theorem UA(t e:T α):(ite true t e).run=t.run:=rfl
@[simp] theorem WC(t e:T α):(ite false t e).run=e.run:=rfl
theorem xi{p:Prop}(h:p)(t:T α):(W p t).run=t.run:=by simp only[run,if_pos h]
theorem vI{b:Bool}(h:b=true)(t e:T α):(ite b t e).run=t.run:=by rw[h]; rfl
theorem j7{b:Bool}(h:b=false)(t e:T α):(ite b t e).run=e.run:=by rw[h]; rfl
theorem yA{t:T α}{x:α}:t.run=some x↔t.leads x:=by
 induction t with
 | ret a=>simp[leads]
 | ite b p q ip iq=>cases b<;>simp[leads,ip,iq]
 | W p t ih=>by_cases h:p<;>simp[run,leads,ih]
 | fail=>simp[leads]
theorem run_bind(t:T α)(f:α->T β):(t.bind f).run=t.run.bind λa=>(f a).run:=by
 induction t with
 | ret a=>rfl
 | ite b p q ip iq=>cases b<;>simp[bind,ip,iq]
 | W p t ih=>by_cases h:p<;>simp[run,bind,h,ih]
 | fail=>rfl
theorem zw{t:T α}{a:α}(h:t.run=some a)(f:α->T β):(t.bind f).run=(f a).run:=by rw[run_bind,h]; rfl
section loop
variable {σ ρ:Type} (r:σ->T (σ⊕ρ))
inductive Iter:Nat->σ->ρ->Prop
 | done {s:σ} {x:ρ} (h:(r s).leads (.inr x)):Iter 0 s x
 | step {n:Nat} {s s':σ} {x:ρ} (h:(r s).leads (.inl s')) (k:Iter n s' x):Iter (n+1) s x
theorem Iter.det{r:σ->T (σ⊕ρ)}{n m:Nat}{s:σ}{x y:ρ}(h:Iter r n s x)(k:Iter r m s y):x=y:=by
 induction h generalizing m y with
 | done h =>
  cases k with
  | done k=>have:=ma h k; cases this; rfl
  | step k _=>have:=ma h k; cases this
 | step h _ ih =>
  cases k with
  | done k=>have:=ma h k; cases this
  | step k k2=>have:=ma h k; cases this; exact ih k2
open Classical in
noncomputable def loop (s:σ):T ρ:=if h:∃ x n,Iter r n s x then .ret h.choose else .fail
theorem eT{s:σ}{x:ρ}:(loop r s).leads x↔∃ n,Iter r n s x:=by
 unfold loop
 split
 ·rename_i h
  obtain⟨n,hn⟩:=h.choose_spec
  constructor
  ·intro N; cases N; exact⟨n,hn⟩
  ·rintro⟨m,hm⟩; exact hn.det hm
 ·rename_i h
  exact⟨λk=>k.elim,λ⟨n,hn⟩=>h ⟨x,n,hn⟩⟩
theorem Xb{r:σ->T (σ⊕ρ)}(hb:σ->Prop)(μ:σ->Nat)(f:σ->ρ)
  (h:∀ s,hb s->(∃ s',(r s).run=some (.inl s')/\hb s'/\μ s'<μ s/\f s'=f s)\/(r s).run=some (.inr (f s))) {s:σ} (hs:hb s):(loop r s).run=some (f s):=by
 rw[yA,eT]
 generalize hm:μ s=m
 induction m using Nat.strongRecOn generalizing s with
 | _ m ih =>
  rcases h s hs with⟨s',h1,M,h3,h4⟩ | h1
  ·obtain⟨n,hn⟩:=ih (μ s') (Z) M rfl
   exact⟨n+1,.step (yA.1 h1) (h4▸hn)⟩
  ·exact⟨0,.done (yA.1 h1)⟩
theorem XU{r:σ->T (σ⊕ρ)}{s s':σ}(h:(r s).run=some (.inl s')):(loop r s).run=(loop r s').run:=by
 have h':=yA.1 h
 apply Option.ext
 intro x
 show(loop r s).run=some x↔(loop r s').run=some x
 rw[yA,yA,eT,eT]
 constructor
 ·rintro⟨n,hn⟩
  cases hn with
  | done k=>have:=ma h' k; cases this
  | step k k2=>have:=ma h' k; cases this; exact⟨_,k2⟩
 ·rintro⟨n,hn⟩; exact⟨n+1,.step h' hn⟩
theorem pn{r:σ->T (σ⊕ρ)}{s:σ}{x:ρ}(h:(r s).run=some (.inr x)):(loop r s).run=some x:=by
 rw[yA,eT]; exact⟨0,.done (yA.1 h)⟩
end loop
section fix
variable {σ ρ:Type} (b:(σ->T ρ)->σ->T ρ)
def Wq:Nat->σ->T ρ
 | 0,_=>.fail
 | n+1,x=>b (Wq n) x
open Classical in
noncomputable def fix (x:σ):T ρ:=if h:∃ y n,∀ m,n<=m->(Wq b m x).leads y then .ret h.choose else .fail
theorem lY{x:σ}{y:ρ}:(fix b x).leads y↔∃ n,∀ m,n<=m->(Wq b m x).leads y:=by
 unfold fix
 split
 ·rename_i h
  obtain⟨n,hn⟩:=h.choose_spec
  constructor
  ·intro N; cases N; exact⟨n,hn⟩
  ·rintro⟨k,hk⟩; exact ma (hn (max n k) (Z)) (hk (max n k) (Z))
 ·rename_i h
  exact⟨λk=>k.elim,λ⟨n,hn⟩=>h ⟨y,n,hn⟩⟩
end fix
def Uu:T α->Option Prop
 | ret _=>none
 | ite b t e=>match t.Uu,e.Uu with
  | none,none=>none
  | some p,none=>some (b=true->p)
  | none,some q=>some (b=false->q)
  | some p,some q=>some ((b=true->p)/\(b=false->q))
 | W p t=>match t.Uu with
  | none=>some p
  | some q=>some (p/\q)
 | fail=>some False
def val(d:α):T α->α
 | ret a=>a
 | ite b t e=>bif b then t.val d else e.val d
 | W _ t=>t.val d
 | fail=>d
def flat(d:α)(t:T α):T α:=match t.Uu with
 | none=>.ret (t.val d)
 | some p=>.W p (.ret (t.val d))
def Ke(t:T α):Prop:=match t.Uu with | none=>True | some p=>p
theorem G6(d:α)(t:T α)(x:α):t.leads x↔t.Ke/\t.val d=x:=by
 induction t with
 | ret a=>simp[leads,Ke,Uu,val]
 | ite b p q ip iq =>
  cases b
  ·simp only[leads,val,iq]
   unfold Ke
   simp only[Uu]
   grind
  ·simp only[leads,val,ip]
   unfold Ke
   simp only[Uu]
   grind
 | W p t ih =>
  simp only[leads,ih,val]
  unfold Ke
  simp only[Uu]
  grind
 | fail=>simp[leads,Ke,Uu]
end T
abbrev qi(x:Int):Int:=zX .i64 x
abbrev wi(x:Int):Int:=zX .u64 x
abbrev gM(x:Int):Int:=zX .u32 x
abbrev wu8(x:Int):Int:=zX .u8 x
def zp(vi off len n:Nat):Prop:=vi=n/\off=0/\len=n
def xe(i:Int)(n:Nat):Prop:=0<=i/\i<(n:Int)
def uO(vi dD idx n:Nat):Prop:=vi=dD/\idx<n
def vV(vi dD off len n m bytes:Nat):Prop:=vi=dD/\off=0/\len=n/\(n+m)*bytes<=140737488355328
def jA(l h:Int)(n:Nat):Prop:=0<=l/\l<=h/\h<=(n:Int)
def zkU(l h m:Int)(n:Nat):Prop:=0<=l/\l<=h/\h=m/\h<=(n:Int)
def CX(l:zx):Nat->zx
 | 0=>[]
 | c+1=>l++CX l c
def DZ(u:Nat):zx:=if h:u<10 then[UInt8.ofNat (48+u)]else DZ (u / 10)++[UInt8.ofNat (48+u % 10)]
termination_by u
decreasing_by omega
def Yp(n:Int):zx:=if n<0 then 45::DZ n.natAbs else DZ n.toNat
def Yk:zx->zx->Int
 | [],sub=>if sub.isEmpty then 0 else -1
 | b::l,sub=>if sub.isPrefixOf (b::l)then 0 else if Yk l sub == -1 then -1 else Yk l sub+1
def VZ:zx->UInt8->Int
 | [],_ => -1
 | b::l,c=>if b==c then 0 else if VZ l c == -1 then -1 else VZ l c+1
def DY(s sep:zx):zx×zx×Bool:=if 0<=Yk s sep then(s.take (Yk s sep).toNat,s.drop ((Yk s sep).toNat+sep.length),true)else(s,[],false)
def D9(s p:zx):zx:=if List.isPrefixOf p s=true then s.drop p.length else s
def lH(s:zx):den (mO .bool 256):=Rb (e:=.bool) (λj=>s.contains (UInt8.ofNat j)) 256 0
def QN(v v' o l n:Nat):Prop:=v=v'/\o+l<=n
def CD(a b:Nat):Nat:=min a b
def eC(n m:Int)(bytes:Nat):Prop:=0<=n/\n<=m/\m*bytes<=140737488355328/\m<=140737488355328
def nth{α:Type}(l:List α)(i:Int)(d:α):α:=zR l i.toNat d
def wj{α:Type}(l:List α)(i:Nat)(d:α):α:=zR l i d
def uv(s:zx)(i:Int):Int:=((zR s i.toNat 0).toNat:Int)
def GM(k:IntKind)(x y:Int):Int:=QH k (· &&& ·) x y
def H7(k:IntKind)(x y:Int):Int:=QH k (· ||| ·) x y
def LY(k:IntKind)(x y:Int):Int:=QH k (· ^^^ ·) x y
def z3a(l:List Int):T (zx×Unit):=.W ((∀ n∈l,(0:Int)<=n/\n<256)/\V l<=140737488355328) (.ret (kA l,()))
end Go.AM
namespace Go.AM
def z8x(b:UInt8):List zx->List zx
 | []=>[[b]]
 | x::y=>(b::x)::y
def lj(c:UInt8):zx->List zx
 | []=>[[]]
 | b::r=>if b=c then[]::lj c r else z8x b (lj c r)
def sn(c:UInt8):zx->zx->List zx
 | cur,[]=>if cur=[]then[]else[cur]
 | cur,b::r=>if b=c then(if cur=[]then sn c [] r else cur::sn c [] r)else sn c (cur++[b]) r
def rm:zx->zx->Int
 | [],_ => -1
 | b::l,chars=>if chars.contains b then 0 else if rm l chars == -1 then -1 else rm l chars+1
abbrev oI{A hl:Type}(i:Int)(l:List A)(t:T hl):T hl:=.W (xe i l.length) t
abbrev U{A hl:Type}(l:List A)(t:T hl):T hl:=.W (l.length=l.length) t
abbrev oC{A hl:Type}(l:List A)(t:T hl):T hl:=.W (zp l.length 0 l.length l.length) t
abbrev oM{hl:Type}(a b:Nat)(t:T hl):T hl:=.W (zp a 0 a b) (.W (a=b) t)
abbrev oA{A hl:Type}(l:List A)(k:Nat)(t:T hl):T hl:=.W (vV l.length l.length 0 l.length l.length 1 k) t
abbrev oK{hl:Type}(a b:zx)(t:T hl):T hl:=.W (a.length+b.length<=4611686018427387904) t
abbrev oZ{hl:Type}(t:T hl):T hl:=.W (zp 0 0 0 0) (.W ((0:Nat)=0) t)
abbrev oV{A hI C D κ' F hl:Type}(a:List A)(b:List hI)(c:List C)(d:List D)(e:List κ')(f:List F)(t:T hl):T hl:=oC a (oC b (oC c (oC d (oC e (oC f t)))))
abbrev oW{A hI C D κ' F hl:Type}(a:List A)(b:List hI)(c:List C)(d:List D)(e:List κ')(f:List F)(t:T hl):T hl:=U a (U b (U c (U d (U e (U f t)))))
abbrev oY{A hI C D κ' F hl:Type}(a:List A)(b:List hI)(c:List C)(d:List D)(e:List κ')(f:List F)(t:T hl):T hl:=oV a b c d e f (oW a b c d e f t)
end Go.AM
namespace Go.AM
namespace T
variable {α β:Type}
attribute [simp] run_bind
@[simp] theorem Fm(b:Bool)(t e:T α):(ite b t e).run=if b=true then t.run else e.run:=run_ite b t e
@[simp] theorem vM{i:Int}{n:Nat}(t:T α)(h1:0<=i)(M:i<(n:Int)):(W (xe i n) t).run=t.run:=xi ⟨h1,M⟩ t
@[simp] theorem fB{v v' i n:Nat}(t:T α)(h1:v=v')(M:i<n):(W (uO v v' i n) t).run=t.run:=xi ⟨h1,M⟩ t
@[simp] theorem zlz{v v' o l n m b:Nat}(t:T α)(h1:v=v')(M:o=0)(h3:l=n)(h4:(n+m)*b<=140737488355328):(W (vV v v' o l n m b) t).run=t.run:=xi ⟨h1,M,h3,h4⟩ t
@[simp] theorem bf{v o l n:Nat}(t:T α)(h1:v=n)(M:o=0)(h3:l=n):(W (zp v o l n) t).run=t.run:=xi ⟨h1,M,h3⟩ t
@[simp] theorem Xr{l h:Int}{n:Nat}(t:T α)(h1:0<=l)(M:l<=h)(h3:h<=(n:Int)):(W (jA l h n) t).run=t.run:=xi ⟨h1,M,h3⟩ t
@[simp] theorem run_mk{n m:Int}{b:Nat}(t:T α)(h1:0<=n)(M:n<=m)(h3:m*b<=140737488355328)(h4:m<=140737488355328):(W (eC n m b) t).run=t.run:=xi ⟨h1,M,h3,h4⟩ t
@[simp] theorem z8J{v v' o l n:Nat}(t:T α)(h1:v=v')(M:o+l<=n):(W (QN v v' o l n) t).run=t.run:=xi ⟨h1,M⟩ t
@[simp] theorem yX{a b:Nat}(t:T α)(h:a=b):(W (a=b) t).run=t.run:=xi h t
@[simp] theorem zlA{a b:Nat}(t:T α)(h:a<=b):(W (a<=b) t).run=t.run:=xi h t
@[simp] theorem iU{a b:Int}(t:T α)(h:a<=b):(W (a<=b) t).run=t.run:=xi h t
@[simp] theorem sX{a b:Int}(t:T α)(h:a≠b):(W (a≠b) t).run=t.run:=xi h t
@[simp] theorem zp0{A:Type}{i:Int}{l:List A}(t:T α)(h1:0<=i)(M:i<(l.length:Int)):(oI i l t).run=t.run:=xi ⟨h1,M⟩ t
@[simp] theorem zoZ{A:Type}(l:List A)(t:T α):(U l t).run=t.run:=xi rfl t
@[simp] theorem zoY{A:Type}(l:List A)(t:T α):(oC l t).run=t.run:=xi ⟨rfl,rfl,rfl⟩ t
@[simp] theorem zp2{a b:Nat}(t:T α)(h:a=b):(oM a b t).run=t.run:=(xi ⟨h,rfl,h⟩ _).trans (xi h t)
@[simp] theorem zoX{A:Type}{l:List A}{k:Nat}(t:T α)(h:(l.length+1)*k<=140737488355328):(oA l k t).run=t.run:=xi ⟨rfl,rfl,rfl,h⟩ t
@[simp] theorem zp1{a b:zx}(t:T α)(h:a.length+b.length<=4611686018427387904):(oK a b t).run=t.run:=xi h t
@[simp] theorem Ge(t:T α):(W True t).run=t.run:=xi trivial t
end T
@[simp] theorem qp{x:Int}(h1 : -9223372036854775808<=x)(M:x<=9223372036854775807):qi x=x:=IntWalk.i64_in x ⟨h1,M⟩
@[simp] theorem zdg{x:Int}(h1:0<=x)(M:x<=255):wu8 x=x:=IntWalk.u8_in x ⟨h1,M⟩
@[simp] theorem Py{x:Int}(h1:0<=x)(M:x<=4294967295):gM x=x:=IntWalk.u32_in x ⟨h1,M⟩
@[simp] theorem gN{x:Int}(h1:0<=x)(M:x<=18446744073709551615):wi x=x:=IntWalk.u64_in x ⟨h1,M⟩
theorem Zf(x:Int):gM x=x % 4294967296:=IntKind.wrap_u32 x
theorem FF(x:Int):wi x=x % 18446744073709551616:=IntKind.wrap_u64 x
end Go.AM