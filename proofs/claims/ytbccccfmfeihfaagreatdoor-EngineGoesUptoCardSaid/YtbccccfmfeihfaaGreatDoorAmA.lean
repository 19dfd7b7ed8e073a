/-
  The abstract machine, part A: texts of our own, the same for each claim.
-/
import Derived.WalkKit
import Derived.Maps.OwnOps
import Derived.Maps.Views
import Derived.Laws.StructEq
set_option linter.unusedVariables false
open Nat renaming beq -> zA, eq_of_beq_eq_true -> zE, le_refl -> zF, blt -> zI, ble -> zJ, le_of_ble_eq_true -> zK, le_trans -> zS
open Go.Result renaming andThen_ok -> Y
open Go.Sem renaming run_bind -> M, run_pure -> zN
open List renaming length -> U, getElem?_eq_getElem -> zP, getD -> zR, length_nil -> zY
open Pure renaming pure -> zG
open Go.Instr renaming sliceAt -> zH, slice -> zL, indexAt -> zO, sureAddr -> zQ, sliceBounds -> zU, loadAt -> zW, fieldAt -> qB, field -> qD
open Bool renaming and_eq_true -> zM
open Int renaming cast_ofNat_Int -> zT
open Go.Builtin renaming len_ -> zV
open Go.IntKind renaming wrap -> zX
open Go.Op renaming eqFields -> zZ, equalIn -> qC
open Go.Value renaming cells -> qA
namespace Go
theorem Z{p:Prop}(h:p:=by omega):p:=h
theorem xo{p:Prop}(h:p:=by decide):p:=h
theorem qp{p:Prop}(h:p:=by simp):p:=h
theorem wb{p:Prop}(h:p:=by grind):p:=h
theorem uf{p:Prop}[Decidable p](h:decide p=true):p:=of_decide_eq_true h
theorem yT{p:Prop}[Decidable p](h:decide p=false):Not p:=of_decide_eq_false h
end Go
namespace Go.AM
theorem s7{a b c d:Prop}(h:a\/b)(f:a->c)(g:b->d):c\/d:=wb
abbrev q9:=List UInt8
inductive Ty where
 | int (k:IntKind) | bool | str | sl (e:Ty) | nil | cons (a b:Ty) | expr
 deriving DecidableEq
inductive Expr where
 | mk (kind:Int) (num:Bool×List Int×List Int×Unit) (name:q9) (kids:List Expr)
def Expr.kind:Expr->Int | .mk k _ _ _=>k
def Expr.num:Expr->Bool×List Int×List Int×Unit | .mk _ n _ _=>n
def Expr.name:Expr->q9 | .mk _ _ n _=>n
def Expr.kids:Expr->List Expr | .mk _ _ _ l=>l
@[reducible] def den:Ty->Type
 | .int _=>Int
 | .bool=>Bool
 | .str=>q9
 | .sl e=>List (den e)
 | .nil=>Unit
 | .cons a b=>den a×den b
 | .expr=>Expr
abbrev u32:Ty:=.int .u32
abbrev i64:Ty:=.int .i64
abbrev Co:Ty:=.cons .bool (.cons (.sl u32) (.cons (.sl u32) .nil))
abbrev Kx:Ty:=.cons i64 (.cons Co (.cons .str (.cons (.sl .expr) .nil)))
def Expr.z1h(e:Expr):den Kx:=(e.kind,e.num,e.name,e.kids,())
def Expr.MC(x:den Kx):Expr:=.mk x.1 x.2.1 x.2.2.1 x.2.2.2.1
def Ty.size:Ty->Nat
 | .int _ | .bool | .str | .sl _=>1
 | .nil=>0
 | .cons a b=>a.size+b.size
 | .expr=>6
def Ty.isAgg:Ty->Bool
 | .nil | .cons _ _ | .expr=>true
 | _=>false
def zb:(τ:Ty)->den τ
 | .int _=>(0:Int)
 | .bool=>false
 | .str=>([]:q9)
 | .sl e=>([]:List (den e))
 | .nil=>()
 | .cons a b=>(zb a,zb b)
 | .expr=>.mk 0 (false,[],[],()) [] []
inductive D where
 | qs (τ:Ty) (x:den τ)
 | tight (e:Ty) (l:List (den e)) (ne:Bool)
 | sQ (e:Ty) (l:List (den e)) (b:Bool)
 | wJ | gx | ve | gw | uZ
 | ptr (b off:Nat)
 | vH (τ:Ty) (x:den τ)
 | gP (b vp:Nat) (e:Ty) (idx off:Nat)
 | ms (b vp:Nat) (e:Ty) (off len:Nat)
 | wo (f:Nat) (cap:List D)
 | agg (cs:List D)
 | eO (vs:List D)
 | iface (t:Nat) (d:D)
 | Vv
 | eF (b T:Nat)
 | nh (T:Nat)
 | yR (b:Nat)
 | Cg (l:List Int)
inductive cU where
 | dead
 | var (d:D)
 | arr (vp:Nat) (e:Ty) (xs:List (den e))
abbrev St:=List cU
inductive T(α:Type) where
 | ret (a:α)
 | ite (b:Bool) (t e:T α)
 | W (p:Prop) (t:T α)
 | fail
namespace T
variable {α β:Type}
def bind:T α->(α->T β)->T β
 | ret a,k=>k a
 | ite b t e,k=>ite b (t.bind k) (e.bind k)
 | W p t,k=>W p (t.bind k)
 | fail,_=>fail
def H2:Option α->T α
 | some a=>ret a
 | none=>fail
def leads:T α->α->Prop
 | ret a,x=>a=x
 | ite b t e,x=>(b=true/\t.leads x)\/(b=false/\e.leads x)
 | W p t,x=>p/\t.leads x
 | fail,_=>False
def wp(Q:α->Prop):T α->Prop
 | ret a=>Q a
 | ite b t e=>(b=true->t.wp Q)/\(b=false->e.wp Q)
 | W p t=>p/\t.wp Q
 | fail=>False
end T
abbrev Fr:=List (Nat×Option D)
def Fr.get:Fr->Nat->Option D
 | [],_=>none
 | (t,d)::r,s=>bif zA t s then d else Fr.get r s
def Fr.put(fr:Fr)(dst:Option Nat)(d:Option D):Fr :=
 match dst with
 | some t=>(t,d)::fr
 | none=>fr
abbrev Kn:=List (Nat×Option Bool)
def Kn.get:Kn->Nat->Option Bool
 | [],_=>none
 | (t,b)::r,s=>bif zA t s then b else Kn.get r s
inductive HM where
 | ret (ds:List D)
 | bh (d:D)
inductive JO where
 | rp (τ:Ty) | im (τ:Ty)
inductive Ui where
 | ty (τ:Ty) | rp (τ:Ty) | wo (f:Nat) (caps:List JO)
structure Sig where
 params:List Ui
 res:List Ty
structure Ctx where
 P:Program
 xid:Nat
 sig:Nat->List D->Option Sig
 fn:Nat->List D->St->T (HM×St)
 ro:Nat->Bool
 /-- Blocks that a call leaves as they are. -/
 free:Nat->List D->St->List Nat
 z1i:∀ (g:Nat) (args:List D) (st:St) (rs:HM) (qt:St) (b:Nat),(fn g args st).leads (rs,qt)->b∈free g args st->qt[b]? = st[b]?
 /-- What a call touches that lays no new block. -/
 QY:Nat->List D->Option (List Nat)
 RZ:∀ (g:Nat) (args:List D) (zD:List Nat) (st:St) (rs:HM) (qt:St),QY g args=some zD->(fn g args st).leads (rs,qt) ->
  qt.length=st.length/\(∀ b,b<st.length->b ∉ zD->qt[b]? = st[b]?)/\∀ x,(fn g args (st++[x])).leads (rs,qt++[x])
inductive Ex where
 | normal | exit (id:Nat) | ret | bh (d:D)
class V4 where
 u8:Nat
def zeU[V4](e:Ty)(t:Nat):Bool:=match e with
 | .int .u8=>zA t V4.u8
 | _=>true
def zbW[V4](e:Ty)(t:Nat):Prop:=e=.int .u8->t=V4.u8
section ops
variable (c:Ctx)
variable [V4]
def tJ(t:Nat):Option Nat:=(c.P.info? t).map (·.size)
def pT(t:Nat):Option Nat:=(c.P.info? t).map (·.bytes)
def EG(t:Nat):Option Bool:=match c.P.underlying t with | some (.struct _) | some (.array _ _)=>some true | some _=>some false | none=>none
def oB:List (Option Ty)->Option Ty
 | []=>some .nil
 | some a::r=>match oB r with | some b=>some (.cons a b) | none=>none
 | none::_=>none
def HB:Nat->Nat->Option Ty
 | 0,_=>none
 | n+1,t=>bif zA t c.xid then some .expr else
  match c.P.underlying t with
  | some (.int k)=>some (.int k)
  | some .bool=>some .bool
  | some .string=>some .str
  | some (.slice e)=>match HB n e with | some a=>some (.sl a) | none=>none
  | some (.struct fs)=>oB (fs.toList.map λf=>HB n f.type)
  | some (.array k e)=>oB (List.replicate k (HB n e))
  | _=>none
def ct(t:Nat)(τ:Ty):Bool:=zeU τ t&&(match tJ c t with | some n=>zA n τ.size | none=>false)&&(match EG c t with | some b=>b==τ.isAgg | none=>false)
def XS:Value->Option D
 | .int k n=>some (.qs (.int k) n)
 | .bool b=>some (.qs .bool b)
 | .string s=>some (.qs .str s.data.toList)
 | .slice none 0 0=>some .wJ
 | .pointer none=>some .gx
 | .nilFunc=>some .gw
 | .nilIface=>some .ve
 | .map none=>some .uZ
 | _=>none
def gJ:List (Option D)->Option (List D)
 | []=>some []
 | some d::r=>match gJ r with | some l=>some (d::l) | none=>none
 | none::_=>none
def KP:Value->Option D
 | .agg cs=>match gJ (cs.toList.map XS)with | some l=>some (.agg l) | none=>none
 | v=>XS v
def flat:(τ:Ty)->den τ->List D
 | .int k,x=>[.qs (.int k) x]
 | .bool,x=>[.qs .bool x]
 | .str,x=>[.qs .str x]
 | .sl e,x=>[.qs (.sl e) x]
 | .nil,_=>[]
 | .cons a b,x=>flat a x.1++flat b x.2
 | .expr,x=>[.qs i64 x.kind,.qs .bool x.num.1,.qs (.sl u32) x.num.2.1,.qs (.sl u32) x.num.2.2.1,.qs .str x.name,.qs (.sl .expr) x.kids]
def we:D->List D
 | .qs τ x=>flat τ x
 | .agg cs=>cs
 | .eO _=>[]
 | .Cg _=>[]
 | d=>[d]
def D.isAgg:D->Bool
 | .agg _=>true
 | _=>false
def D.cQ:D->Bool
 | .qs τ _=>τ.isAgg
 | .agg _=>true
 | _=>false
def D.zg0:D->Bool
 | .qs τ _=>τ.isAgg
 | .agg _=>true
 | _=>false
def lB:List D->Option Nat
 | .nh T::_=>some T
 | .eF _ T::_=>some T
 | _=>none
def D.typed:D->Option Nat
 | .agg l=>lB l
 | _=>none
def Qo(d d':D):Bool:=match d'.typed with
 | none=>true
 | some T=>match d.typed with | some T'=>zA T T' | none=>false
def D.Gq:D->Bool
 | .Cg _=>true
 | _=>false
def D.bF:D->Bool
 | .eO _=>true
 | _=>false
def jV{a b:Ty}(x:den a):Option (den b):=if h:a=b then some (h▸x)else none
def ng(e:Ty):Nat->Ty
 | 0=>.nil
 | n+1=>.cons e (ng e n)
def ET:Ty->Option (Ty×Nat)
 | .cons e r=>match r with
  | .nil=>some (e,1)
  | r=>match ET r with
   | some (e',n)=>bif decide (e=e')then some (e,n+1)else none
   | none=>none
 | _=>none
def Vd(e:Ty):(τ:Ty)->den τ->Nat->den e
 | .cons _ _,x,0=>match(jV x.1:Option (den e))with | some y=>y | none=>zb e
 | .cons _ b,x,i+1=>Vd e b x.2 i
 | _,_,_=>zb e
def SG{e:Ty}(f:Nat->den e):(n:Nat)->Nat->den (ng e n)
 | 0,_=>()
 | n+1,k=>(f k,SG f n (k+1))
def pU(τ:Ty):D->Option (den τ)
 | .qs σ x=>jV x
 | .tight e l _=>jV (a:=.sl e) l
 | .sQ e l _=>jV (a:=.sl e) l
 | .wJ=>match τ with | .sl e=>some ([]:List (den e)) | _=>none
 | _=>none
def cT:(τ:Ty)->List D->Option (den τ×List D)
 | .int k,d::r=>match pU (.int k) d with | some x=>some (x,r) | none=>none
 | .bool,d::r=>match pU .bool d with | some x=>some (x,r) | none=>none
 | .str,d::r=>match pU .str d with | some x=>some (x,r) | none=>none
 | .sl e,d::r=>match pU (.sl e) d with | some x=>some (x,r) | none=>none
 | .nil,r=>some ((),r)
 | .cons a b,r=>match cT a r with
  | some (x,r')=>match cT b r' with | some (y,r'')=>some ((x,y),r'') | none=>none
  | none=>none
 | .expr,[]=>none
 | .expr,d::r=>match pU i64 d with
  | none=>none
  | some k=>match r with
   | d1::d2::d3::d4::d5::r' =>
    match pU .bool d1,pU (.sl u32) d2,pU (.sl u32) d3,pU .str d4,pU (.sl .expr) d5 with
    | some a,some n,some m,some s,some l=>some (Expr.mk k (a,n,m,()) s l,r')
    | _,_,_,_,_=>none
   | _=>none
 | _,[]=>none
def oQ(τ:Ty)(d:D):Option (den τ) :=
 match d with
 | .qs σ x=>jV x
 | .Cg _=>none
 | d=>bif (d.isAgg==τ.isAgg) && !d.bF then match cT τ (we d)with
   | some (x,[])=>some x
   | _=>none
  else none
def ZC(st:St):D->T D
 | .ms b vp e off len=>match st[b]? with
  | some (.arr dO e' xs)=>if h:e'=e then .W (vp=dO) (.ret (.qs (.sl e) (h▸((xs.take (off+len)).drop off:List (den e')))))else .fail
  | _=>.fail
 | d=>.ret d
def Cu(st:St):List D->T (List D)
 | []=>.ret []
 | d::r=>(ZC st d).bind λx=>(Cu st r).bind λl=>.ret (x::l)
def snap(st:St):D->T D
 | .agg cs=>(Cu st cs).bind λl=>.ret (.agg l)
 | d=>ZC st d
def Ux(st:St)(τ:Ty)(d:D):T (den τ):=(snap st d).bind λx=>.H2 (oQ τ x)
def UT:D->Bool | .ms .. => true | _=>false
inductive ek where
 | val (t:T (Option D))
 | rd (k:St->T (Option D))
 | wr (k:St->T (Option D×St))
def val(d:D):ek:=.val (.ret (some d))
def zak(d:Option D):ek:=match d with | some d=>.val (.ret (some d)) | none=>.val .fail
def bad:ek:=.val .fail
def zbX(t:Nat):Bool:=match c.P.underlying t with
 | some (.struct fs)=>match fs[0]? with
  | some fd=>match c.P.underlying fd.type with | some (.pointer e)=>zA e t | _=>false
  | none=>false
 | _=>false
def z3v(t:Nat)(d:D):D:=match d with
 | .agg (.gx::r)=>bif zbX c t then .agg (.nh t::r)else .agg (.gx::r)
 | d=>d
def Y7(t:Nat):Option D:=match c.P.info? t with
 | some i=>match i.zero with | some z=>(match KP z with | some d=>some (z3v c t d) | none=>none) | none=>none
 | none=>none
def CE(l:List D)(off n:Nat):Option (List D) :=
 bif zJ (off+n) l.length then some ((l.drop off).take n)else none
def N5(t:Nat)(d:D)(off:Nat):Option D :=
 match EG c t with
 | some true=>match tJ c t with
  | none=>none
  | some n=>bif (zA off 0)&&zA n (we d).length&&d.zg0 then some d
   else match CE (we d) off n with | some l=>some (.agg l) | none=>none
 | some false=>(we d)[off]?
 | none=>none
def Bh(t:Nat)(d:D)(off:Nat)(x:D):Option D :=
 match tJ c t with
 | none=>none
 | some n=>bif zI 0 n&&zA n (we x).length&&zJ (off+n) (we d).length then
   bif zA n (we d).length then(bif d.cQ && !x.cQ then some (.agg (we x))else some x)
   else some (.agg ((we d).take off++we x++(we d).drop (off+n)))
  else none
def VN(t:Nat)(a:Option D):ek:=match a with
 | some (.vH τ x)=>bif ct c t τ then val (.qs τ x)else bad
 | some (.ptr b off)=>.rd λst=>match st[b]? with
  | some (.var d)=>bif d.Gq then .fail else match N5 c t d off with | some r=>.ret (some r) | none=>.fail
  | _=>.fail
 | some (.gP b vp e idx off)=>.rd λst=>match st[b]? with
  | some (.arr dO e' xs)=>bif decide (e'=e)then
    .W (vp=dO/\idx<xs.length) (match N5 c t (.qs e' (xs.getD idx (zb e'))) off with | some r=>.ret (some r) | none=>.fail)
   else .fail
  | _=>.fail
 | _=>bad
def YI(t:Nat)(a:Option D)(v:Option D):ek:=match a,v with
 | some (.ptr b off),some x=>.wr λst=>match st[b]? with
  | some (.var d)=>match Bh c t d off x with | some r=>bif Qo d r then .ret (none,st.set b (.var r))else .fail | none=>.fail
  | _=>.fail
 | some (.gP b vp e idx off),some x=>.wr λst=>match st[b]? with
  | some (.arr dO e' xs)=>bif decide (e'=e)then
    .W (vp=dO/\idx<xs.length) (match Bh c t (.qs e' (xs.getD idx (zb e'))) off x with
     | some r=>match oQ e' r with | some y=>.ret (none,st.set b (.arr dO e' (xs.set idx y))) | none=>.fail
     | none=>.fail)
   else .fail
  | _=>.fail
 | _,_=>bad
def Xx:(τ:Ty)->den τ->Nat->Option (D×Nat×Nat)
 | .cons a _,x,0=>some (.vH a x.1,0,a.size)
 | .cons a b,x,n+1=>match Xx b x.2 n with | some (d,o,s)=>some (d,a.size+o,s) | none=>none
 | .expr,x,0=>some (.vH i64 x.kind,0,1)
 | .expr,x,1=>some (.vH Co x.num,1,3)
 | .expr,x,2=>some (.vH .str x.name,4,1)
 | .expr,x,3=>some (.vH (.sl .expr) x.kids,5,1)
 | _,_,_=>none
def Yp(s f:Nat):Option (Nat×Nat):=match c.P.underlying s with
 | some (.struct fs)=>match fs[f]? with
  | some fd=>match tJ c fd.type with | some n=>bif zA n 0 then none else some (fd.offset,n) | none=>none
  | none=>none
 | _=>none
def Xv(s f:Nat)(a:Option D):ek:=match Yp c s f with
 | none=>bad
 | some (o,n)=>match a with
  | some (.vH τ x)=>match Xx τ x f with
   | some (d,o',n')=>bif zA o o'&&zA n n' then val d else bad
   | none=>bad
  | some (.ptr b off)=>val (.ptr b (off+o))
  | some (.gP b vp e idx off)=>val (.gP b vp e idx (off+o))
  | _=>bad
def Di(s f:Nat)(a:Option D):ek:=match c.P.underlying s with
 | some (.struct fs)=>match fs[f]? with
  | some fd=>match a with
   | some d=>zak (bif d.cQ then N5 c fd.type d fd.offset else none)
   | none=>bad
  | none=>bad
 | _=>bad
def asInt:Option D->Option (IntKind×Int)
 | some (.qs (.int k) n)=>some (k,n)
 | _=>none
def YU:Option D->Option q9
 | some (.qs .str s)=>some s
 | _=>none
def asBool:Option D->Option Bool
 | some (.qs .bool b)=>some b
 | _=>none
def np(t:Nat):Option Nat:=match c.P.underlying t with | some (.slice e)=>some e | _=>none
def zcE(t:Nat):Option (Nat×Nat):=match c.P.underlying t with | some (.array n e)=>some (n,e) | _=>none
def Gn(t:Nat)(x:Option D)(i:Int):ek:=match zcE c t,x with
 | some (n,et),some (.vH τ y)=>match ET τ with
  | some (e,m)=>bif ct c et e&&zA n m then .val (.W (0<=i/\i<(n:Int)) (.ret (some (.vH e (Vd e τ y i.toNat)))))else bad
  | none=>bad
 | _,_=>bad
def Xz(t:Nat)(x i:Option D):ek:=match np c t,asInt i with
 | none,some (_,i)=>Gn c t x i
 | some et,some (_,i)=>match x with
  | some (.qs (.sl e) l)=>bif ct c et e then .val (.W (0<=i/\i<(U l:Int)) (.ret (some (.vH e (zR l i.toNat (zb e))))))else bad
  | some (.tight e l _)=>bif ct c et e then .val (.W (0<=i/\i<(U l:Int)) (.ret (some (.vH e (zR l i.toNat (zb e))))))else bad
  | some (.ms b vp e off len)=>bif ct c et e then .val (.W (0<=i/\i<(len:Int)) (.ret (some (.gP b vp e (off+i.toNat) 0))))else bad
  | _=>bad
 | _,_=>bad
def DB(t:Nat)(x i:Option D):ek:=match asInt i,YU x,c.P.underlying t with
 | some (_,i),some s,some .string=>.val (.W (0<=i/\i<(U s:Int)) (.ret (some (.qs (.int .u8) ((zR s i.toNat 0).toNat:Int)))))
 | _,_,_=>bad
def SI(d:Int):Option (Option D)->Option Int
 | none=>some d
 | some x=>match asInt x with | some (_,i)=>some i | none=>none
def fW(l h:Int)(s:q9):q9:=(s.take h.toNat).drop l.toNat
def uI{e:Ty}(l h:Int)(s:List (den e)):List (den e):=(s.take h.toNat).drop l.toNat
def Ea(t:Nat)(x:Option D)(lo hi mx:Option (Option D)):ek:=match x with
 | some (.qs .str s)=>match c.P.underlying t,mx,SI 0 lo,SI (U s) hi with
  | some .string,none,some l,some h=>.val (.W (0<=l/\l<=h/\h<=(U s:Int)) (.ret (some (.qs .str (fW l h s)))))
  | _,_,_,_=>bad
 | some (.qs (.sl e) s)=>match np c t,SI 0 lo,SI (U s) hi with
  | some et,some l,some h=>bif ct c et e then match mx with
    | none=>.val (.W (0<=l/\l<=h/\h<=(U s:Int)) (.ret (some (.qs (.sl e) (uI l h s)))))
    | some m=>match asInt m with
     | some (_,m)=>bif hi.isSome then .val (.W (0<=l/\l<=h/\h=m/\h<=(U s:Int)) (.ret (some (.tight e (uI l h s) false))))else bad
     | none=>bad
   else bad
  | _,_,_=>bad
 | some (.tight e s _)=>match np c t,mx,SI 0 lo,SI (U s) hi with
  | some et,none,some l,some h=>bif ct c et e then .val (.W (0<=l/\l<=h/\h<=(U s:Int)) (.ret (some (.qs (.sl e) (uI l h s)))))else bad
  | _,_,_,_=>bad
 | some (.ms b vp e off len)=>match np c t,mx,SI 0 lo,SI len hi with
  | some et,none,some l,some h=>bif ct c et e then .val (.W (0<=l/\l<=h/\h<=(len:Int)) (.ret (some (.ms b vp e (off+l.toNat) (h.toNat-l.toNat)))))else bad
  | _,_,_,_=>bad
 | _=>bad
def ib(k:IntKind)(n:Int):ek:=val (.qs (.int k) n)
def bb(b:Bool):ek:=val (.qs .bool b)
def Xd(k:IntKind)(f:BitVec k.bits->BitVec k.bits->BitVec k.bits)(x y:Int):Int:=k.wrap (f (BitVec.ofInt k.bits x) (BitVec.ofInt k.bits y)).toNat
def fS(k:IntKind)(a b:Int):Int:=k.wrap (a*2 ^ (min b.toNat k.bits))
def j8(k:IntKind)(a b:Int):Int:=Int.fdiv a (2 ^ (min b.toNat k.bits))
def Lt(op:BinOp)(k:IntKind)(a b:Int):ek:=match op with
 | .add=>ib k (k.wrap (a+b))
 | .sub=>ib k (k.wrap (a-b))
 | .mul=>ib k (k.wrap (a*b))
 | .quo=>.val (.W (b≠0) (.ret (some (.qs (.int k) (k.wrap (a.tdiv b))))))
 | .rem=>.val (.W (b≠0) (.ret (some (.qs (.int k) (a.tmod b)))))
 | .and=>ib k (Xd k (· &&& ·) a b)
 | .or=>ib k (Xd k (· ||| ·) a b)
 | .xor=>ib k (Xd k (· ^^^ ·) a b)
 | .eql=>bb (a==b)
 | .neq=>bb (a != b)
 | .lss=>bb (decide (a<b))
 | .leq=>bb (decide (a<=b))
 | .gtr=>bb (decide (b<a))
 | .geq=>bb (decide (b<=a))
 | _=>bad
def wP(a b:q9):Bool:=a==b
def strLt(a b:q9):Bool:=Op.bytesLess a b
def cat(a b:q9):q9:=a++b
def Lw(op:BinOp)(a b:q9):ek:=match op with
 | .add=>.val (.W (a.length+b.length<=4611686018427387904) (.ret (some (.qs .str (cat a b)))))
 | .eql=>bb (wP a b)
 | .neq=>bb (!wP a b)
 | .lss=>bb (strLt a b)
 | .leq=>bb (strLt a b||wP a b)
 | .gtr=>bb (!(strLt a b||wP a b))
 | .geq=>bb (!strLt a b)
 | _=>bad
def z1c(op:BinOp)(a b:Bool):ek:=match op with
 | .eql=>bb (a==b)
 | .neq=>bb (!(a==b))
 | _=>bad
def Yy:BinOp->Bool
 | .shl | .shr=>true
 | _=>false
def zaz(a:Ty)(t:Nat):Bool:=match a,c.P.underlying t with
 | .int k,some (.int k')=>decide (k=k')
 | .bool,some .bool=>true
 | .str,some .string=>true
 | _,_=>false
def UM:Ty->Nat->List Field->Bool
 | .nil,_,[]=>true
 | .cons a r,off,f::fs=>decide (f.name ≠ "_")&&(zA f.offset off&&(zaz c a f.type&&UM r (off+1) fs))
 | _,_,_=>false
def eqT:(τ:Ty)->den τ->den τ->Bool
 | .int _,(a:Int),(b:Int)=>a==b
 | .bool,(a:Bool),(b:Bool)=>a==b
 | .str,(a:q9),(b:q9)=>wP a b
 | .cons a r,(x:den a×den r),(y:den a×den r)=>eqT a x.1 y.1&&eqT r x.2 y.2
 | _,_,_=>true
def Hs(τ:Ty)(t:Nat):Bool:=match c.P.underlying t with
 | some (.struct fs)=>UM c τ 0 fs.toList&&(!(c.P.stoodInHeld t) && !(c.P.eqGuardType c.P.depth t))
 | _=>false
def z1b(op:BinOp)(t:Nat)(x y:Option D):ek:=match x,y with
 | some (.qs τ a),some (.qs σ b)=>match(jV b:Option (den τ))with
  | some b=>bif τ.isAgg&&Hs c τ t then(match op with
   | .eql=>bb (eqT τ a b)
   | .neq=>bb (!eqT τ a b)
   | _=>bad)else bad
  | none=>bad
 | _,_=>bad
def YW(op:BinOp)(t:Nat)(x y:Option D):ek:=match asInt x,asInt y with
 | some (k,a),some (k',b)=>match op with
  | .shl=>.val (.W (0<=b) (.ret (some (.qs (.int k) (fS k a b)))))
  | .shr=>.val (.W (0<=b) (.ret (some (.qs (.int k) (j8 k a b)))))
  | op=>bif decide (k=k')then Lt op k a b else bad
 | _,_=>match YU x,YU y with
  | some a,some b=>bif Yy op then bad else Lw op a b
  | _,_=>match c.P.underlying t,asBool x,asBool y with
   | some .bool,some a,some b=>z1c op a b
   | _,_,_=>z1b c op t x y
def DN(op:BinOp)(t:Nat)(x:Option D):ek:=match c.P.underlying t with
 | some (.interface _)=>match op,x with
  | .eql,some .ve=>bb true
  | .eql,some (.iface _ _)=>bb false
  | .neq,some .ve=>bb false
  | .neq,some (.iface _ _)=>bb true
  | _,_=>bad
 | _=>bad
def QH(x:Option D)(at':Nat)(ok:Bool):ek:=match c.P.underlying at' with
 | some (.interface _)=>bad
 | none=>bad
 | some _=>match x with
  | some (.iface t d)=>bif zA t at'&&ok then val (.eO [d,.qs .bool true])else bad
  | _=>bad
def DQ(op:BinOp)(t:Nat)(x:Option D)(z:ek):ek:=match c.P.underlying t with
 | some (.slice _)=>match op,x with
  | .eql,some .wJ=>bb true
  | .eql,some (.sQ _ _ b)=>bb (!b)
  | .neq,some .wJ=>bb false
  | .neq,some (.sQ _ _ b)=>bb b
  | _,_=>z
 | _=>z
def DP(op:BinOp)(t:Nat)(x:Option D)(z:ek):ek:=match c.P.underlying t with
 | some (.pointer _)=>match op,x with
  | .eql,some .gx=>bb true
  | .eql,some (.ptr _ _)=>bb false
  | .eql,some (.vH _ _)=>bb false
  | .neq,some .gx=>bb false
  | .neq,some (.ptr _ _)=>bb true
  | .neq,some (.vH _ _)=>bb true
  | _,_=>z
 | _=>z
def Lv(op:BinOp)(t:Nat)(p:Operand)(x y:Option D):ek:=match p with
 | .const .nilIface=>DN c op t x
 | .const (.slice none 0 0)=>DQ c op t x (YW c op t x y)
 | .const (.pointer none)=>DP c op t x (YW c op t x y)
 | _=>YW c op t x y
def z4L(op:UnOp)(x:Option D):ek:=match op with
 | .neg=>match asInt x with | some (k,n)=>ib k (k.wrap (0-n)) | none=>bad
 | .not=>match asBool x with | some b=>bb (!b) | none=>bad
 | .xor=>match asInt x with | some (k,n)=>ib k (Xd k (· ^^^ ·) (if k.signed then -1 else k.max) n) | none=>bad
 | _=>bad
def byteOf(n:Int):UInt8:=UInt8.ofNat n.toNat
def IG(e:Ty):D->Option (List (den e))
 | .qs σ y=>jV (a:=σ) (b:=.sl e) y
 | .tight e' y _=>jV (a:=.sl e') (b:=.sl e) y
 | .wJ=>some []
 | _=>none
def kD(l:List Int):q9:=l.map byteOf
def JU(e:Nat)(x:Option D):ek:=match c.P.underlying e,x with
 | some (.int .u8),some d=>.rd λst=>(ZC st d).bind λy=>match IG (.int .u8) y with
  | some l=>.ret (some (.qs .str (kD l)))
  | none=>.fail
 | _,_=>bad
def convertOp(s t:Nat)(x:Option D):ek:=match c.P.underlying s,c.P.underlying t with
 | some (.slice e),some .string=>JU c e x
 | some (.int _),some (.int k)=>match asInt x with | some (_,n)=>ib k (k.wrap n) | none=>bad
 | some .string,some .string=>match YU x with | some s=>val (.qs .str s) | none=>bad
 | _,_=>bad
def z2v(t:Nat)(x:Option D):ek:=match c.P.underlying t with
 | some (.slice _)=>match x with
  | some (.qs (.sl _) l)=>ib .i64 (U l)
  | some (.tight _ l _)=>ib .i64 (U l)
  | some .wJ=>ib .i64 0
  | some (.ms _ _ _ _ len)=>ib .i64 (len:Nat)
  | _=>bad
 | some .string=>match YU x with
  | some s=>ib .i64 (U s)
  | none=>bad
 | _=>bad
def ex(e:Ty){e':Ty}(xs:List (den e')):Option (List (den e)):=jV (a:=.sl e') (b:=.sl e) xs
def pG(e:Ty)(l ys:List (den e))(bytes:Nat)(st:St):T (Option D×St) :=
 .W ((l.length+ys.length)*bytes<=140737488355328) (.ret (some (.ms st.length (l.length+ys.length) e 0 (l.length+ys.length)),st++[.arr (l.length+ys.length) e (l++ys)]))
def bw(e:Ty)(s:D)(ys:List (den e))(ne:Bool)(bytes:Nat)(st:St):T (Option D×St):=match s with
 | .wJ=>bif ne then pG e [] ys bytes st else .ite ys.isEmpty (.ret (some s,st)) (pG e [] ys bytes st)
 | .tight e' l _=>match ex e l with
  | some l=>bif ne then pG e l ys bytes st else .ite ys.isEmpty (.ret (some s,st)) (pG e l ys bytes st)
  | none=>.fail
 | .sQ e' l b=>match ex e l with
  | some []=>bif b then .W (ys.length*bytes<=140737488355328) (.ret (some (.sQ e ys true),st))else .fail
  | _=>.fail
 | .ms b vp e' off len=>match st[b]? with
  | some (.arr dO e'' xs)=>match ex e xs with
   | some xs=>bif decide (e'=e)then .W (vp=dO/\off=0/\len=xs.length/\(xs.length+ys.length)*bytes<=140737488355328)
     (.ret (some (.ms b (vp+ys.length) e 0 (len+ys.length)),st.set b (.arr (vp+ys.length) e (xs++ys))))else .fail
   | none=>.fail
  | _=>.fail
 | _=>.fail
def zeroOf(et:Nat)(e:Ty):Option (den e):=match Y7 c et with | some z=>oQ e z | none=>none
def Xb(t:Nat)(s x:Option D):ek:=match np c t with
 | none=>bad
 | some et=>match HB c 20 et,pT c et with
  | some e,some bytes=>bif ct c et e&&zI 0 e.size&&zI 0 bytes&&(zeroOf c et e).isSome then match s,x with
    | some s,some x=>.wr λst=>(ZC st x).bind λx=>match x with
     | .qs _ y=>match(jV y:Option (den (.sl e)))with
      | some ys=>bw e s ys false bytes st
      | none=>.fail
     | .tight _ y ne=>match ex e y with
      | some ys=>bw e s ys ne bytes st
      | none=>.fail
     | .wJ=>bw e s [] false bytes st
     | _=>.fail
    | _,_=>bad
   else bad
  | _,_=>bad
def bytesOf(s:q9):List Int:=s.map λb=>((b.toNat:Nat):Int)
def Z8(t t':Nat)(s x:Option D):ek:=match np c t with
 | none=>bad
 | some et=>match HB c 20 et,pT c et,c.P.underlying t' with
  | some (.int .u8),some bytes,some .string=>bif ct c et (.int .u8)&&zI 0 bytes&&(zeroOf c et (.int .u8)).isSome then match s,x with
    | some s,some (.qs .str l)=>.wr λst=>bw (.int .u8) s (bytesOf l) false bytes st
    | _,_=>bad
   else bad
  | _,_,_=>bad
def Mq(t:Nat)(n m:Option D):ek:=match np c t,asInt n,asInt m with
 | some et,some (_,n),some (_,m)=>match HB c 20 et,pT c et with
  | some e,some bytes=>match zeroOf c et e with
   | some z=>bif ct c et e&&zI 0 e.size then
     .wr λst=>.W (0<=n/\n<=m/\m*bytes<=140737488355328/\m<=140737488355328) (.ret (some (.ms st.length n.toNat e 0 n.toNat),st++[.arr n.toNat e (List.replicate n.toNat z)]))
    else bad
   | none=>bad
  | _,_=>bad
 | _,_,_=>bad
def BN(e:Ty):Nat->List (Nat×Option D)->Option (List (den e))
 | _,[]=>some []
 | i,(j,some d)::r=>bif zA i j then match oQ e d,BN e (i+1) r with
   | some x,some l=>some (x::l)
   | _,_=>none
  else none
 | _,_=>none
def bW(t n:Nat)(ps:List (Nat×Option D)):ek:=match np c t with
 | none=>bad
 | some et=>match HB c 20 et with
  | some e=>bif ct c et e&&zA n ps.length&&zJ n 1000&&zJ e.size 100&&(zeroOf c et e).isSome then match BN e 0 ps with
    | some l=>bif zA n 0&&zI 0 e.size then .wr λst=>.ret (some (.ms st.length 0 e 0 0),st++[.arr 0 e []])else val (.tight e l (!zA n 0))
    | none=>bad
   else bad
  | none=>bad
def Uu(t:Nat)(z:ek):ek:=match np c t with
 | none=>z
 | some et=>match HB c 20 et with
  | some e=>bif ct c et e&&(zeroOf c et e).isSome then val (.sQ e [] true)else z
  | none=>z
def s9(places:List (Nat×Nat)):List (Nat×Option D)->List D->Option (List D)
 | [],cells=>some cells
 | (i,some d)::r,cells=>match places[i]? with
  | some (off,n)=>bif !d.bF&&zA n (we d).length&&zJ (off+n) cells.length then
     s9 places r (cells.take off++we d++cells.drop (off+n))else none
  | none=>none
 | _,_=>none
def D0(t:Nat)(ps:List (Nat×Option D)):ek:=match c.P.underlying t with
 | some (.struct fs)=>match Y7 c t,fs.toList.mapM (λf=>(c.P.info? f.type).map λi=>(f.offset,i.size))with
  | some (.agg z),some places=>match s9 places ps z with
   | some l=>val (.agg l)
   | none=>bad
  | _,_=>bad
 | some (.array k e)=>match Y7 c t,c.P.info? e with
  | some (.agg z),some ie=>match s9 ((List.range k).map λi=>(i*ie.size,ie.size)) ps z with
   | some l=>val (.agg l)
   | none=>bad
  | _,_=>bad
 | _=>bad
def K1(x:Option D)(i:Nat):ek:=match x with
 | some (.eO vs)=>zak vs[i]?
 | _=>bad
def eW:List D->D
 | [d]=>d
 | ds=>.eO ds
def Ty.scalar:Ty->Bool
 | .int _ | .bool | .str=>true
 | .cons a b=>a.scalar&&b.scalar
 | .nil=>true
 | _=>false
def WX:D->Bool
 | .qs τ _=>τ.scalar
 | _=>false
def QN(st:St)(τ:Ty):D->T D
 | .vH _ x=>match(jV x:Option (den τ))with | some y=>.ret (.vH τ y) | none=>.fail
 | .ptr b off=>match st[b]? with
  | some (.var d)=>match bif zA off 0 then oQ τ d else none with | some y=>.ret (.vH τ y) | none=>.fail
  | _=>.fail
 | _=>.fail
def Xi(st:St):JO->D->T D
 | .im τ,d=>(Ux st τ d).bind λx=>.ret (.qs τ x)
 | .rp τ,d=>QN st τ d
def mH(st:St):List JO->List D->T (List D)
 | [],[]=>.ret []
 | p::r,d::ds=>(Xi st p d).bind λx=>(mH st r ds).bind λl=>.ret (x::l)
 | _,_=>.fail
def F8(st:St):Ui->D->T D
 | .ty τ,d=>(Ux st τ d).bind λx=>.ret (.qs τ x)
 | .rp τ,d=>QN st τ d
 | .wo f caps,.wo f' l=>bif zA f f' then(mH st caps l).bind λl=>.ret (.wo f l)else .fail
 | _,_=>.fail
def QM(st:St):List Ui->List D->T (List D)
 | [],[]=>.ret []
 | p::r,d::ds=>(F8 st p d).bind λx=>(QM st r ds).bind λl=>.ret (x::l)
 | _,_=>.fail
def zdK:D->Bool | .ptr .. => true | _=>false
def Kg:D->Bool
 | .agg cs=>cs.any UT
 | .wo _ l=>l.any λd=>UT d||zdK d
 | .ptr .. => true
 | d=>UT d
def z4n(r:HM×St):T (Option D):=match r with
 | (.ret ds,[])=>.ret (some (eW ds))
 | _=>.fail
def WU(r:HM×St):T (Option D):=match r with
 | (.ret ds,[])=>bif ds.all WX then .ret (some (eW ds))else .fail
 | _=>.fail
def eH(g:Nat)(s:Sig)(args:List D):ek :=
 bif !(args.any Kg)then .val ((QM [] s.params args).bind λl=>(c.fn g l []).bind z4n)
 else .rd λst=>(QM st s.params args).bind λl=>(c.fn g l []).bind WU
def sV(g:Nat)(args:List D):ek:=.wr λst=>(c.fn g args st).bind λr=>match r.1 with
 | .ret ds=>.ret (some (eW ds),r.2)
 | .bh _=>.fail
def eD(g:Nat):Nat:=bif zJ 1000000 g then g % 1000000 else g
def bQ{α:Type}(g:Nat)(l caps:List α):List α:=bif zJ 1000000 g then caps++l else l++caps
def eZ(f:Option D)(args:List (Option D)):ek:=match f,gJ args with
 | some (.wo g caps),some l=>match c.sig (eD g) (bQ g l caps)with
  | some s=>eH c (eD g) s (bQ g l caps)
  | none=>sV c (eD g) (bQ g l caps)
 | _,_=>bad
def rV(a b:Int):Int:=if b<a then b else a
def dZ(a b:Int):Int:=if a<b then b else a
def GS(f:Int->Int->Int)(args:List (Option D)):ek:=match args with
 | [x,y]=>match asInt x,asInt y with
  | some (k,a),some (k',b)=>bif decide (k=k')then ib k (f a b)else bad
  | _,_=>bad
 | _=>bad
def yx{α:Type}(off len:Nat)(xs l:List α):List α:=xs.take off++l.take len++xs.drop (off+min len l.length)
def z10(k:IntKind)(b vp off len:Nat)(l:List Int)(st:St):T (Option D×St):=match st[b]? with
 | some (.arr dO e' xs)=>match ex (.int k) xs with
  | some xs=>.W (vp=dO/\off+len<=U xs) (.ret (some (.qs i64 ((min len l.length:Nat):Int)),st.set b (.arr dO (.int k) (yx off len xs l))))
  | none=>.fail
 | _=>.fail
def LM(t:Nat)(s x:Option D):ek:=match np c t with
 | some et=>match c.P.underlying et,tJ c et,s,x with
  | some (.int k),some 1,some (.ms b vp (.int k') off len),some d=>bif decide (k'=k)then .wr λst=>(ZC st d).bind λy=>match IG (.int k) y with
    | some l=>z10 k b vp off len l st
    | none=>.fail
   else bad
  | _,_,_,_=>bad
 | none=>bad
def lS(b:Builtin)(ts:List Nat)(args:List (Option D)):ek:=match b,ts,args with
 | .len,t::_,x::_=>z2v c t x
 | .append,[t,t'],[s,x]=>bif zA t t' then Xb c t s x else Z8 c t t' s x
 | .copy,[t,_],[s,x]=>LM c t s x
 | .min,_,args=>GS rV args
 | .max,_,args=>GS dZ args
 | _,_,_=>bad
def bB(fr:Fr):Operand->Option D
 | .tmp t=>fr.get t
 | .const v=>KP v
 | .global _=>none
 | .func f=>bif zI f 1000000 then some (.wo f [])else none
def VY(x:Option D):ek:=match x with
 | some (.ptr b o)=>val (.ptr b o)
 | some (.vH τ x)=>val (.vH τ x)
 | some (.gP b v e i o)=>val (.gP b v e i o)
 | some (.wo f l)=>val (.wo f l)
 | _=>bad
def MK(x a b:Option D):ek:=match asBool x with
 | some x=>.val (.ite x (.ret a) (.ret b))
 | none=>bad
def XJ(t:Nat)(x:Option D):ek:=match c.P.underlying t with
 | some (.interface _) | none=>bad
 | some _=>match x with | some d=>val (.iface t d) | none=>bad
def z0O(x:Option D):ek:=match x with
 | some d=>bif d.bF||d.typed.isSome then bad else .wr λst=>.ret (some (.ptr st.length 0),st++[.var d])
 | none=>bad
def z0P(t:Nat)(x:Option D):ek:=match x with
 | some (.qs τ x)=>val (.vH τ x)
 | some d=>match HB c 20 t with
  | some τ=>match oQ τ d with | some x=>val (.vH τ x) | none=>bad
  | none=>bad
 | none=>bad
def z4o:Option Nat->Bool
 | some s=>c.ro s
 | none=>false
def z0N(t:Nat)(dst:Option Nat)(x:Option D):ek:=bif z4o c dst then z0P c t x else z0O x
def oP(t:Nat):ek:=match Y7 c t with
 | some d=>.wr λst=>.ret (some (.ptr st.length 0),st++[.var d])
 | none=>bad
def Gp:IntKind->Bool
 | .i64=>true
 | _=>false
def FT(t:Nat):Bool:=match c.P.underlying t with
 | some (.map k e)=>(match c.P.underlying k with | some (.int q)=>Gp q | _=>false)&&(match c.P.underlying e with | some .bool=>true | _=>false)&&(match c.P.info? e with | some i=>(match i.zero with | some (.bool z) => !z | _=>false) | none=>false)
 | _=>false
def wfI(n:Int):Prop:=(Lit.int .i64 n).wf=true
def z3y(y:Bool)(n:Int)(l:List Int):Prop:=y=true/\wfI n/\l.length<4294967296
def Kc(t:Nat)(r:Option Operand):ek:=bif FT c t&&r.isNone then .wr λst=>.ret (some (.yR st.length),st++[.var (.Cg [])])else bad
def GL(t:Nat)(ok:Bool)(m x:Option D):ek:=bif FT c t && !ok then match m,asInt x with
 | some (.yR b),some (q,n)=>bif Gp q then .rd λst=>match st[b]? with
  | some (.var (.Cg l))=>.W (wfI n) (.ret (some (.qs .bool (l.contains n))))
  | _=>.fail
  else bad
 | some .uZ,some (q,n)=>bif Gp q then .val (.W (wfI n) (.ret (some (.qs .bool false))))else bad
 | _,_=>bad
 else bad
def GO(t:Nat)(m x v:Option D):ek:=bif FT c t then match m,asInt x,asBool v with
 | some (.yR b),some (q,n),some y=>bif Gp q then .wr λst=>match st[b]? with
  | some (.var (.Cg l))=>.W (z3y y n l) (.ret (none,st.set b (.var (.Cg (l++[n])))))
  | _=>.fail
  else bad
 | _,_,_=>bad
 else bad
def wS(ρ:Operand->Option D)(o:Oper):ek:=match o.op with
 | .move x | .assign x=>.val (.ret (ρ x))
 | .pick x a b=>MK (ρ x) (ρ a) (ρ b)
 | .alloc t=>oP c t
 | .box t x=>z0N c t o.dst (ρ x)
 | .load t a=>VN c t (ρ a)
 | .store t a v=>YI c t (ρ a) (ρ v)
 | .nilCheck x=>VY (ρ x)
 | .binOp op t x y _=>Lv c op t y (ρ x) (ρ y)
 | .typeAssert x _ t ok=>QH c (ρ x) t ok
 | .unOp op _ x=>z4L op (ρ x)
 | .convert s t x=>convertOp c s t (ρ x)
 | .makeInterface t x=>XJ c t (ρ x)
 | .makeMap t r=>Kc c t r
 | .lookup t m x ok=>GL c t ok (ρ m) (ρ x)
 | .mapUpdate t m x v=>GO c t (ρ m) (ρ x) (ρ v)
 | .makeFunc (.func f) first cap=>bif zA first.size 0&&zI f 1000000 then match gJ (cap.toList.map ρ)with | some l=>val (.wo f l) | none=>bad
   else bif zA cap.size 0&&zI f 1000000 then match gJ (first.toList.map ρ)with | some l=>val (.wo (f+1000000) l) | none=>bad else bad
 | .makeSlice t l m=>Mq c t (ρ l) (ρ m)
 | .slice t x lo hi mx=>Ea c t (ρ x) (lo.map ρ) (hi.map ρ) (mx.map ρ)
 | .fieldAddr s x f=>Xv c s f (ρ x)
 | .field s x f=>Di c s f (ρ x)
 | .indexAddr t x i=>Xz c t (ρ x) (ρ i)
 | .index t x i=>DB c t (ρ x) (ρ i)
 | .extract x i=>K1 (ρ x) i
 | .build t ps=>D0 c t (ps.toList.map λp=>(p.1,ρ p.2))
 | .buildSlice t n ps=>bif z4o c o.dst&&zA n 0&&zA ps.size 0 then Uu c t (bW c t n (ps.toList.map λp=>(p.1,ρ p.2)))else bW c t n (ps.toList.map λp=>(p.1,ρ p.2))
 | .call cl=>match cl.callee with
  | .builtin b=>lS c b cl.argTypes.toList (cl.args.toList.map ρ)
  | .value f=>eZ c (ρ f) (cl.args.toList.map ρ)
  | .invoke _ _=>bad
 | _=>bad
def qx:ek->St->T (Option D×St)
 | .val t,st=>t.bind λd=>.ret (d,st)
 | .rd k,st=>(k st).bind λd=>.ret (d,st)
 | .wr k,st=>k st
end ops
end Go.AM
namespace Go.AM
def ek.kind:ek->Nat
 | .val _=>0
 | .rd _=>1
 | .wr _=>2
def bE(ops:Array Oper)(j:Nat):Option Nat:=match ops[j]? with | some o=>o.dst | none=>none
def und:D:=.eO []
def gu(n:Nat):Option Nat->Bool
 | some t=>zI t n
 | none=>true
section
variable (c:Ctx)
variable [V4]
def rL(kn:Kn):Operand->Option Bool
 | .tmp t=>kn.get t
 | .const (.bool b)=>some b
 | _=>none
def Bc(kn:Kn):Op->Option Bool
 | .move x | .assign x=>rL kn x
 | .pick x a b=>match rL kn x with
  | some true=>rL kn a
  | some false=>rL kn b
  | none=>none
 | _=>none
def QS(kn:Kn)(fr:Fr)(o:Oper):ek:=match o.op with
 | .pick x a b=>match rL kn x with
  | some true=>.val (.ret (bB fr a))
  | some false=>.val (.ret (bB fr b))
  | none=>wS c (bB fr) o
 | _=>wS c (bB fr) o
def Bi(kn:Kn)(dst:Option Nat)(b:Option Bool):Kn:=match dst with | some t=>(t,b)::kn | none=>kn
inductive RK where
 | z (k:Nat) | rd (b:Nat) | wr (free:List Nat) | up (b:Nat) | wc (l:List Nat) | al (free:List Nat)
def RK.base:RK->Nat
 | .z k=>k
 | .rd _=>1
 | .wr _=>2
 | .up _=>2
 | .wc _=>2
 | .al _=>2
def others(n:Nat)(l:List Nat):List Nat:=(List.range n).filter λb => !(l.any (zA b))
def zeO(d:Option D):Option Nat:=match d with
 | some d=>match d with
  | .ptr b _=>some b
  | .gP b _ _ _ _=>some b
  | _=>none
 | none=>none
def BV(bi:Builtin)(l:List (Option D))(st:St):RK:=match bi with
 | .append=>match l with | [some (.ms b _ _ _ _),some x]=>bif UT x then .z 2 else .up b | [some .wJ,some x]=>bif UT x then .z 2 else .wr (others st.length []) | _=>.z 2
 | _=>.z 2
def vA(ρ:Operand->Option D)(st:St)(o:Oper):RK:=match(wS c ρ o).kind with
 | 1=>match o.op with
  | .load _ a=>match zeO (ρ a)with | some b=>.rd b | none=>.z 1
  | _=>.z 1
 | 2=>match o.op with
  | .alloc _=>.al (others st.length [])
  | .store _ a _=>match zeO (ρ a)with | some b=>.up b | none=>.z 2
  | .call cl=>match cl.callee with
   | .value f=>match ρ f,gJ (cl.args.toList.map ρ)with | some (.wo g caps),some l=>(match c.QY (eD g) (bQ g l caps)with | some zD=>.wc zD | none=>.wr (c.free (eD g) (bQ g l caps) st)) | _,_=>.z 2
   | .builtin bi=>BV bi (cl.args.toList.map ρ) st
   | _=>.z 2
  | _=>.z 2
 | k=>.z k
structure oL where
 fr:Fr
 kn:Kn
 st:St
 ks:List Nat      -- kinds of what has run,the last first
 bk:List RK
def ly(n:Nat)(o:Oper)(s:oL):T oL :=
 bif gu n o.dst then
  let cl:=QS c s.kn s.fr o
  (qx cl s.st).bind λr=>.ret ⟨s.fr.put o.dst r.1,Bi s.kn o.dst (Bc s.kn o.op),r.2,cl.kind::s.ks,vA c (bB s.fr) s.st o::s.bk⟩
 else .fail
def cS(o:Oper)(s:oL):oL:=⟨s.fr.put o.dst (some und),Bi s.kn o.dst none,s.st,0::s.ks,.z 0::s.bk⟩
def oL.lE(s:oL)(t:Nat)(b:Bool):oL:={ s with kn:=(t,some b)::s.kn }
def stepG(n:Nat)(ops:Array Oper)(o:Oper)(s:oL):T oL:=match o.guard with
 | none=>ly c n o s
 | some (j,want)=>match bE ops j with
  | none=>.fail
  | some t=>match s.kn.get t with
   | some b=>bif b==want then ly c n o s else bif gu n o.dst then .ret (cS o s)else .fail
   | none=>match s.fr.get t with
    | some (.qs .bool x)=>bif gu n o.dst then
      .ite x (bif want then ly c n o (s.lE t true)else .ret (cS o (s.lE t true)))
          (bif want then .ret (cS o (s.lE t false))else ly c n o (s.lE t false))
     else .fail
    | some (.eO [])=>bif gu n o.dst then .ret (cS o s)else .fail
    | _=>.fail
def tY(n:Nat)(ops:Array Oper):List Oper->oL->T oL
 | [],s=>.ret s
 | o::l,s=>(stepG c n ops o s).bind λs'=>tY n ops l s'
def tmpsOf(ops:Array Oper)(o:Oper):List Nat :=
 (match o.dst with | some d=>[d] | none=>[]) ++
 (match o.guard with | some (j,_)=>(match bE ops j with | some s=>[s] | none=>[]) | none=>[]) ++
 o.op.operands.toList.filterMap λ| .tmp t=>some t | _=>none
def uc(l:List Oper):List Nat->List Nat
 | acc=>match l with
  | []=>acc
  | o::r=>uc r (acc++[o.after.toList.foldl (λs e=>bif Region.binds .any e then s ||| 2 ^ e.on ||| acc.getD e.on 0 else s) 0])
def ordered(bs:List Nat)(i j:Nat):Bool:=Nat.testBit (bs.getD j 0) i
def bU(k l:Nat):Bool:=(zA k 2 && !zA l 0)||(zA l 2 && !zA k 0)
def MJ{K:Type}(cl:K->K->Bool)(bs:List Nat)(xs:List (Nat×Option Nat×List Nat×K))(j:Nat)(dj:Option Nat)(tj:List Nat)(kj:K):Bool :=
 xs.all λx=>ordered bs x.1 j||(!(match x.2.1 with | some d=>tj.contains d | none=>false) && !(match dj with | some d=>x.2.2.1.contains d | none=>false) && !cl x.2.2.2 kj)
def Qq{K:Type}(cl:K->K->Bool)(ops:Array Oper)(bs:List Nat):List Oper->List K->Nat->List (Nat×Option Nat×List Nat×K)->Bool
 | [],_,_,_=>true
 | o::l,k::ks,j,xs=>let tj:=tmpsOf ops o; MJ cl bs xs j o.dst tj k&&Qq cl ops bs l ks (j+1) ((j,o.dst,tj,k)::xs)
 | _,_,_,_=>false
def iv:List Oper->Nat->Bool
 | [],_=>true
 | o::l,j=>o.after.toList.all (λe => !Region.binds .any e||zI e.on j)&&iv l (j+1)
def NM(ops:Array Oper)(ks:List Nat):Bool :=
 let l:=ops.toList
 iv l 0&&Qq bU ops (uc l []) l ks 0 []
def Yf(o:Oper):Bool:=(match o.op with | .alloc _=>true | _=>false)&&o.guard.isNone&&o.dst.isSome
def Gz:List Oper->List Nat->List Nat
 | o::l,k::ks=>(bif Yf o then 3 else k)::Gz l ks
 | _,_=>[]
def Xh(k l:Nat):Bool:=bif zA k 3&&zA l 3 then false else bU (bif zA k 3 then 2 else k) (bif zA l 3 then 2 else l)
def YP:List Oper->Nat->List Nat
 | [],_=>[]
 | o::l,i=>bif Yf o then i::YP l (i+1)else YP l (i+1)
def EL(bs al:List Nat)(n:Nat):Bool:=(List.range n).all λj => !(al.any λp=>ordered bs p j)||al.all λp=>ordered bs p j
def NN(ops:Array Oper)(ks:List Nat):Bool :=
 let l:=ops.toList
 iv l 0&&(ks.all λk=>zJ k 2)&&Qq Xh ops (uc l []) l (Gz l ks) 0 []&&EL (uc l []) (YP l 0) l.length
def yK:RK->RK->Bool
 | .rd b,.wr A => !(A.any (zA b))
 | .wr A,.rd b => !(A.any (zA b))
 | .rd b,.al A => !(A.any (zA b))
 | .al A,.rd b => !(A.any (zA b))
 | .rd b,.wc zD=>zD.any (zA b)
 | .wc zD,.rd b=>zD.any (zA b)
 | .wc _,.al _=>false
 | .rd b,.up a=>zA a b
 | .up a,.rd b=>zA a b
 | .up a,.up b=>zA a b
 | x,y=>bU x.base y.base
def NO(ops:Array Oper)(ks:List RK):Bool :=
 let l:=ops.toList
 iv l 0&&Qq yK ops (uc l []) l ks 0 []
def VH(ops:Array Oper)(ks:List Nat)(bk:List RK):Bool:=NM ops ks||NN ops ks||NO ops bk
def pO(n:Nat)(ops:Array Oper)(draw:Bool)(fr:Fr)(kn:Kn)(st:St):T oL :=
 (tY c n ops ops.toList ⟨fr,kn,st,[],[]⟩).bind λs=>bif !draw||VH ops s.ks.reverse s.bk.reverse then .ret s else .fail
def yw:List D->Nat->Fr
 | [],_=>[]
 | d::r,i=>(i,some d)::yw r (i+1)
def nK(fr:Fr)(st:St):List ResultVar->T (List D)
 | []=>.ret []
 | .tmp t::r=>match fr.get t with
  | some d=>(nK fr st r).bind λl=>.ret (d::l)
  | none=>.fail
 | .cell a t::r=>match fr.get a with
  | some (.ptr b off)=>match st[b]? with
   | some (.var d)=>bif d.Gq then .fail else match N5 c t d off with
    | some x=>(nK fr st r).bind λl=>.ret (x::l)
    | none=>.fail
   | _=>.fail
  | _=>.fail
def yh(n:Nat):D->Bool
 | .ptr b _=>zI b n
 | .eF b _=>zI b n
 | .yR b=>zI b n
 | .gP b .. => zI b n
 | .ms b .. => zI b n
 | .wo .. | .agg _ | .eO _ | .iface .. => false
 | _=>true
def fV(n:Nat):D->Bool
 | .wo _ l=>l.all (yh n)
 | .agg l=>l.all (yh n)
 | .iface _ d=>yh n d
 | d=>yh n d
def D4(n:Nat):cU->Bool
 | .var d=>fV n d
 | _=>true
end
end Go.AM
namespace Go.AM
open Go.RowKit
inductive Rc(w:World)(ok:Nat->Prop):(τ:Ty)->den τ->List Value->Prop
 | int (k:IntKind) (n:Int):Rc w ok (.int k) n [.int k n]
 | bool (b:Bool):Rc w ok .bool b [.bool b]
 | str (s:q9):Rc w ok .str s [.string ⟨s.toArray⟩]
 | lK (e:Ty) (a:Option Addr):Rc w ok (.sl e) ([]:List (den e)) [.slice a 0 0]
 | sl (e:Ty) (l:List (den e)) (blk off cap:Nat) (f:Nat->List Value) (ja:ok blk) (js:l.length<=cap)
   (h:∀ i (hi:i<l.length),Rc w ok e l[i] (f i))
   (hc:∀ i,i<l.length->∀ j v,(f i)[j]? = some v->w.cell? ⟨blk,off+i*e.size+j,none⟩=some v) :
   Rc w ok (.sl e) l [.slice (some ⟨blk,off,none⟩) l.length cap]
 | nil:Rc w ok .nil () []
 | cons (a b:Ty) (x:den a) (y:den b) (c1 c2:List Value) (h1:Rc w ok a x c1) (X:Rc w ok b y c2):Rc w ok (.cons a b) (x,y) (c1++c2)
 | expr (k:Int) (n:den Co) (s:q9) (l:List Expr) (cs:List Value) (h:Rc w ok Kx (k,n,s,l,()) cs):Rc w ok .expr (.mk k n s l) cs
def Lj(w w':World)(ok KR:Nat->Prop):Prop:=∀ k,ok k->KR k/\w'.heap[k]? = w.heap[k]?
theorem lT{w w':World}{a:Addr}(h:w'.heap[a.block]? = w.heap[a.block]?):w'.cell? a=w.cell? a:=by simp[World.cell?,h]
section
variable {w w':World} {ok KR:Nat->Prop}
theorem Rc.mono{τ:Ty}{x:den τ}{cs:List Value}(hs:Lj w w' ok KR)(h:Rc w ok τ x cs):Rc w' KR τ x cs:=by
 induction h with
 | int k n=>exact .int k n
 | bool b=>exact .bool b
 | str s=>exact .str s
 | lK e a=>exact .lK e a
 | sl e l blk off cap f ja js h hc ih=>exact .sl e l blk off cap f (hs _ ja).1 js ih λi hi j v hv=>by rw[lT (hs _ ja).2]; exact hc i hi j v hv
 | nil=>exact .nil
 | cons a b x y c1 c2 h1 X i1 i2=>exact .cons a b x y c1 c2 i1 i2
 | expr k n s l cs h ih=>exact .expr k n s l cs ih
theorem Rc.len{τ:Ty}{x:den τ}{cs:List Value}(h:Rc w ok τ x cs):cs.length=τ.size:=by
 induction h with
 | cons a b x y c1 c2 h1 X i1 i2=>simp[Ty.size,i1,i2]
 | expr k n s l cs h ih=>simpa[Ty.size]using ih
 | _=>rfl
theorem Rc.one{τ:Ty}{x:den τ}{cs:List Value}(h:Rc w ok τ x cs):∀ v∈cs,v.oneCell'=true:=by
 induction h with
 | cons a b x y c1 c2 h1 X i1 i2=>grind
 | expr k n s l cs h ih=>exact ih
 | _=>intro v hv; simp at hv; try (subst hv; rfl)
theorem Rc.dX{k:IntKind}{n:Int}{cs:List Value}(h:Rc w ok (.int k) n cs):cs=[.int k n]:=by cases h; rfl
theorem Rc.cA{n:Bool}{cs:List Value}(h:Rc w ok .bool n cs):cs=[.bool n]:=by cases h; rfl
theorem Rc.jl{n:q9}{cs:List Value}(h:Rc w ok .str n cs):cs=[.string ⟨n.toArray⟩]:=by cases h; rfl
theorem Rc.cons_inv{a b:Ty}{x:den (.cons a b)}{cs:List Value}(h:Rc w ok (.cons a b) x cs):∃ c1 c2,cs=c1++c2/\Rc w ok a x.1 c1/\Rc w ok b x.2 c2:=by
 cases h with | cons _ _ x y c1 c2 h1 X=>exact⟨c1,c2,rfl,h1,X⟩
theorem Rc.wj{x:den .nil}{cs:List Value}(h:Rc w ok .nil x cs):cs=[]:=by cases h; rfl
theorem Rc.Fp{x:Expr}{cs:List Value}(h:Rc w ok .expr x cs):Rc w ok Kx x.z1h cs:=by cases h with | expr k n s l cs h=>exact h
theorem Rc.tZ{e:Ty}{l:List (den e)}{cs:List Value}(h:Rc w ok (.sl e) l cs):(l=[]/\∃ a,cs=[.slice a 0 0]) \/
  ∃ (blk off cap:Nat) (f:Nat->List Value),cs=[.slice (some ⟨blk,off,none⟩) l.length cap]/\ok blk/\l.length<=cap/\(∀ i (hi:i<l.length),Rc w ok e l[i] (f i)) /\
   (∀ i,i<l.length->∀ j v,(f i)[j]? = some v->w.cell? ⟨blk,off+i*e.size+j,none⟩=some v):=by
 cases h with
 | lK _ a=>simp
 | sl _ _ blk off cap f ja js h hc=>exact .inr ⟨blk,off,cap,f,rfl,ja,js,h,hc⟩
end
def pk(τ:Ty)(cs:List Value):Value:=if τ.isAgg then .agg cs.toArray else cs.headD undef
structure KS where
 w:World
 ok:Nat->Prop
 ph:List (Option (Nat×Nat))
 st:St
def Nu(ph:List (Option (Nat×Nat)))(b zpN:Nat)(e:Ty)(off len:Nat)(v:Value):Prop :=
 off+len<=zpN/\((len=0/\off=0/\v=.slice none 0 0/\ph[b]? = some none) \/
  ∃ (blk n o cap:Nat),ph[b]? = some (some (blk,n))/\v=.slice (some ⟨blk,o,none⟩) len cap/\len<=cap/\(off+cap)*e.size<=n/\(cap=0\/o=off*e.size))
def Old(st:St)(b vp:Nat):Prop:=st[b]? = some .dead\/∃ (v0:Nat) (e0:Ty) (Uf:List (den e0)),st[b]? = some (.arr v0 e0 Uf)/\vp<=v0
def D.one:D->Bool
 | .qs τ _ => !τ.isAgg
 | .agg _ | .eO _=>false
 | _=>true
def X2(f:Nat)(vs:List Value):Value:=bif zJ 1000000 f then .func (.func (f % 1000000)) vs.toArray #[]else .func (.func f) #[] vs.toArray
theorem D3{f:Nat}(h:zI f 1000000=true)(vs:List Value):X2 f vs=.func (.func f) #[] vs.toArray:=by
 have:zJ 1000000 f=false:=by
  cases I:zJ 1000000 f with
  | false=>rfl
  | true=>have h1:=zK I; have X:=zK h; omega
 unfold X2; rw[this]; rfl
theorem LI{f:Nat}(h:zI f 1000000=true)(vs:List Value):X2 (f+1000000) vs=.func (.func f) vs.toArray #[]:=by
 have h1:zJ 1000000 (f+1000000)=true:=Nat.ble_eq_true_of_le (Z)
 have X:=zK h
 have h3:(f+1000000) % 1000000=f:=Z
 unfold X2; rw[h1,h3]; rfl
theorem G3(f:Nat)(vs:List Value):(X2 f vs).cells.toList=[X2 f vs]:=by
 unfold X2; cases zJ 1000000 f<;>rfl
theorem z0U(f:Nat)(vs:List Value):(X2 f vs).oneCell'=true:=by
 unfold X2; cases zJ 1000000 f<;>rfl
theorem G2(f:Nat)(vs:List Value):∃ g a b,X2 f vs=.func (.func g) a b:=by
 unfold X2; cases zJ 1000000 f<;>exact⟨_,_,_,rfl⟩
inductive RD(O:KS):D->Value->Prop
 | qs (τ:Ty) (x:den τ) (cs:List Value) (h:Rc O.w O.ok τ x cs):RD O (.qs τ x) (pk τ cs)
 | vF (e:Ty) (a:Option Addr):RD O (.tight e ([]:List (den e)) false) (.slice a 0 0)
 | tight (e:Ty) (l:List (den e)) (ne:Bool) (blk off:Nat) (f:Nat->List Value) (ki:ne=true->l≠[]) (ja:O.ok blk)
   (h:∀ i (hi:i<l.length),Rc O.w O.ok e l[i] (f i))
   (hc:∀ i,i<l.length->∀ j v,(f i)[j]? = some v->O.w.cell? ⟨blk,off+i*e.size+j,none⟩=some v) :
   RD O (.tight e l ne) (.slice (some ⟨blk,off,none⟩) l.length l.length)
 | sQ (e:Ty) (l:List (den e)) (b:Bool) (v:Value) (h:Rc O.w O.ok (.sl e) l [v]) (ht:b=true->∃ blk off cap,v=.slice (some ⟨blk,off,none⟩) l.length cap/\(l=[]->cap=0)) (hf:b=false->v=.slice none 0 0):RD O (.sQ e l b) v
 | wJ:RD O .wJ (.slice none 0 0)
 | gx:RD O .gx (.pointer none)
 | ve:RD O .ve .nilIface
 | gw:RD O .gw .nilFunc
 | uZ:RD O .uZ (.map none)
 | Vv (v:Value) (h:v.oneCell'=true):RD O .Vv v
 | nh (T:Nat):RD O (.nh T) (.pointer none)
 | yR (b blk n:Nat) (d:D) (J:O.st[b]? = some (.var d)) (h:O.ph[b]? = some (some (blk,n))):RD O (.yR b) (.map (some blk))
 | nG (b T:Nat) (d:D) (J:O.st[b]? = some (.var d)):RD O (.eF b T) (.pointer none)
 | nH (b T blk n:Nat) (d:D) (J:O.st[b]? = some (.var d)) (h:O.ph[b]? = some (some (blk,n))):RD O (.eF b T) (.pointer (some ⟨blk,0,none⟩))
 | ptr (b off blk n:Nat) (d:D) (J:O.st[b]? = some (.var d)) (h:O.ph[b]? = some (some (blk,n))):RD O (.ptr b off) (.pointer (some ⟨blk,off,none⟩))
 | vH (τ:Ty) (x:den τ) (cs:List Value) (blk off:Nat) (ja:O.ok blk) (h:Rc O.w O.ok τ x cs)
   (hc:∀ j v,cs[j]? = some v->O.w.cell? ⟨blk,off+j,none⟩=some v):RD O (.vH τ x) (.pointer (some ⟨blk,off,none⟩))
 | gP (b vp:Nat) (e:Ty) (idx off blk o:Nat) (I:Old O.st b vp)
   (h:∀ xs:List (den e),O.st[b]? = some (.arr vp e xs)->idx<xs.length->∃ n:Nat,O.ph[b]? = some (some (blk,n))/\o=idx*e.size+off) :
   RD O (.gP b vp e idx off) (.pointer (some ⟨blk,o,none⟩))
 | ms (b vp:Nat) (e:Ty) (off len cap:Nat) (a:Option Addr) (I:Old O.st b vp) (js:len<=cap) (ha:a=none->cap=0) (Va:∀ p,a=some p->p.spot=none)
   (h:∀ xs:List (den e),O.st[b]? = some (.arr vp e xs)->Nu O.ph b xs.length e off len (.slice a len cap)):RD O (.ms b vp e off len) (.slice a len cap)
 | wo (f:Nat) (l:List D) (vs:List Value) (R:l.length=vs.length) (h:∀ i (h1:i<l.length) (X:i<vs.length),RD O l[i] vs[i]):RD O (.wo f l) (X2 f vs)
 | agg (l:List D) (vs:List Value) (R:l.length=vs.length) (ho:∀ d∈l,d.one=true) (h:∀ i (h1:i<l.length) (X:i<vs.length),RD O l[i] vs[i]):RD O (.agg l) (.agg vs.toArray)
 | eO (l:List D) (vs:List Value) (R:l.length=vs.length) (h:∀ i (h1:i<l.length) (X:i<vs.length),RD O l[i] vs[i]):RD O (.eO l) (.tuple vs.toArray)
 | iface (t:Nat) (d:D) (v:Value) (h:RD O d v):RD O (.iface t d) (.iface t v)
def wQ(O:KS)(l:List D)(vs:List Value):Prop:=l.length=vs.length/\∀ i (h1:i<l.length) (X:i<vs.length),RD O l[i] vs[i]
def z0x(o:Obj)(l:List Int):Prop:=∀ (P:Program) (k e:TypeId),P.underlying k=some (.int .i64)->P.underlying e=some .bool->∀ (w:World) (b:Nat),w.heap[b]? = some o ->
 ∃ D:DataW Unit,w.ownsMap P k (plainElem P e) b l.length D/\Go.Maps.IsMap D/\∀ n,(Lit.int .i64 n).wf=true->D.atKey (.int .i64 n) (.lit (.bool false))=.lit (.bool (l.contains n))
def Cells(O:KS)(b:Nat)(d:D):Prop:=∃ (blk n:Nat) (cs:Array Value) (t:TypeId),O.ph[b]? = some (some (blk,n))/\O.w.heap[blk]? = some (.cells cs t (0,0))/\cs.size=n/\wQ O (we d) cs.toList/\(∀ x∈we d,x.one=true)/\∀ T,d.typed=some T->t=T
def Maps(O:KS)(b:Nat)(l:List Int):Prop:=∃ (blk:Nat) (o:Obj),O.ph[b]? = some (some (blk,0))/\O.w.heap[blk]? = some o/\z0x o l
def kX(O:KS)(b:Nat)(d:D):Prop:=match d with
 | .Cg l=>Maps O b l
 | d=>Cells O b d
theorem kX.elim{O:KS}{b:Nat}{d:D}{p:Prop}(h:kX O b d)(h1:d.Gq=false->Cells O b d->p)(X:∀ l,d=.Cg l->Maps O b l->p):p:=by
 cases d<;>first | exact X _ rfl h | exact h1 rfl h
theorem kX.cells{O:KS}{b:Nat}{d:D}(h:kX O b d)(hm:d.Gq=false):Cells O b d:=h.elim (λ_ h=>h) λl e _=>by subst e; cases hm
theorem kX.mk{O:KS}{b:Nat}{d:D}(hm:d.Gq=false)(h:Cells O b d):kX O b d:=by
 cases d<;>first | exact h | cases hm
def pP[V4](O:KS)(b:Nat):cU->Prop
 | .dead=>True
 | .var d=>kX O b d
 | .arr _ e xs=>0<e.size/\((xs=[]/\O.ph[b]? = some none) \/
   ∃ (blk n:Nat) (cs:Array Value) (t:TypeId),O.ph[b]? = some (some (blk,n))/\O.w.heap[blk]? = some (.cells cs t (0,0))/\cs.size=n/\xs.length*e.size<=n/\zbW e t /\
    ∃ f:Nat->List Value,∀ i (hi:i<xs.length),Rc O.w O.ok e xs[i] (f i)/\∀ j v,(f i)[j]? = some v->cs[i*e.size+j]? = some v)
class gp extends V4 where
 tab:List (Nat×(Obj->Prop))
def Vy[gp](w:World)(ok:Nat->Prop):Prop:=∀ x∈gp.tab,ok x.1/\∃ o,w.heap[x.1]? = some o/\x.2 o
theorem Vy.mono[gp]{w w':World}{ok KR:Nat->Prop}(h:Vy w ok)(hs:Lj w w' ok KR):Vy w' KR:=λx N=>by
 obtain⟨h1,o,X,h3⟩:=h x N
 obtain⟨g1,g2⟩:=hs _ h1
 grind
structure Inv[gp](O:KS):Prop where
 len:O.ph.length=O.st.length
 bT:∀ k,O.ok k->k<O.w.heap.size
 apart:∀ (b blk n:Nat),O.ph[b]? = some (some (blk,n))->blk<O.w.heap.size/\¬ O.ok blk
 inj:∀ (b b' blk n n':Nat),O.ph[b]? = some (some (blk,n))->O.ph[b']? = some (some (blk,n'))->b=b'
 blk:∀ (b:Nat) (x:cU),O.st[b]? = some x->pP O b x
 gl:Vy O.w O.ok
structure Ext(O E:KS):Prop where
 os:E.w.os=O.w.os
 tape:E.w.tape=O.w.tape
 output:E.w.output=O.w.output
 size:O.w.heap.size<=E.w.heap.size
 same:Lj O.w E.w O.ok E.ok
 fresh:∀ k,E.ok k->O.ok k\/O.w.heap.size<=k\/∃ b n:Nat,O.ph[b]? = some (some (k,n))
 phs:∀ (b blk n:Nat),E.ph[b]? = some (some (blk,n))->O.ph[b]? = some (some (blk,n))\/O.w.heap.size<=blk
 var:∀ (b:Nat) (d:D),O.st[b]? = some (.var d)->(∃ d',E.st[b]? = some (.var d'))/\E.ph[b]? = O.ph[b]?
 arr:∀ (b v0:Nat) (e:Ty) (Uf:List (den e)),O.st[b]? = some (.arr v0 e Uf)->E.st[b]? = some .dead \/
  ∃ (v1:Nat) (xs1:List (den e)),E.st[b]? = some (.arr v1 e xs1)/\v0<=v1/\(v0=v1->E.ph[b]? = O.ph[b]? /\ Uf.length=xs1.length)
 dead:∀ (b:Nat),O.st[b]? = some .dead->E.st[b]? = some .dead
 II:O.st.length<=E.st.length
 frame:∀ k,k<O.w.heap.size->(∀ (b n:Nat),O.ph[b]? ≠ some (some (k,n)))->E.w.heap[k]? = O.w.heap[k]?
theorem Ext.refl(O:KS):Ext O O :=
 ⟨rfl,rfl,rfl,zF _,λ_ h=>⟨h,rfl⟩,λ_ h=>.inl h,λ_ _ _ h=>.inl h,λ_ d h=>⟨⟨d,h⟩,rfl⟩,
  λ_ vp _ xs h=>.inr ⟨vp,xs,h,zF _,λ_=>⟨rfl,rfl⟩⟩,λ_ h=>h,zF _,λ_ _ _=>rfl⟩
theorem Ext.trans{a b c:KS}(h:Ext a b)(k:Ext b c):Ext a c:=by
 refine⟨k.os.trans h.os,k.tape.trans h.tape,k.output.trans h.output,zS h.size k.size,?_,?_,?_,?_,?_,λb I=>k.dead b (h.dead b I),zS h.II k.II,?_⟩
 ·intro i hi
  obtain⟨h1,X⟩:=h.same i hi
  obtain⟨h3,h4⟩:=k.same i h1
  grind
 ·intro i hi
  rcases k.fresh i hi with h1 | h1 | ⟨b,n,h1⟩
  ·exact h.fresh i h1
  ·exact .inr (.inl (zS h.size h1))
  ·rcases h.phs b i n h1 with X | X
   ·grind
   ·grind
 ·intro i blk n hi
  rcases k.phs i blk n hi with h1 | h1
  ·exact h.phs i blk n h1
  ·exact .inr (zS h.size h1)
 ·intro i d hi
  obtain⟨⟨d',eE⟩,hp⟩:=h.var i d hi
  obtain⟨zu4,hp'⟩:=k.var i d' eE
  grind
 ·intro i v0 e Uf hi
  rcases h.arr i v0 e Uf hi with h1 | ⟨v1,x1,h1,X,h3⟩
  ·exact .inl (k.dead i h1)
  ·rcases k.arr i v1 e x1 h1 with g1 | ⟨v2,x2,g1,g2,g3⟩
   ·grind
   ·grind
 ·intro i hi hn
  refine(k.frame i (Nat.lt_of_lt_of_le hi h.size) λb n I => ?_).trans (h.frame i hi hn)
  rcases h.phs b i n I with h1 | h1
  ·grind
  ·omega
theorem Ext.old{O E:KS}(x:Ext O E){b vp:Nat}(h:Old O.st b vp):Old E.st b vp:=by
 rcases h with h | ⟨v0,e0,Uf,h,hv⟩
 ·exact .inl (x.dead b h)
 ·rcases x.arr b v0 e0 Uf h with h1 | ⟨v1,x1,h1,X,_⟩
  ·exact .inl h1
  ·exact .inr ⟨v1,e0,x1,h1,zS hv X⟩
theorem Ext.back{O E:KS}(x:Ext O E){b vp:Nat}(h:Old O.st b vp){e:Ty}{xs:List (den e)}(N:E.st[b]? = some (.arr vp e xs)) :
  ∃ Uf:List (den e),O.st[b]? = some (.arr vp e Uf)/\E.ph[b]? = O.ph[b]? /\ Uf.length=xs.length:=by
 rcases h with h | ⟨v0,e0,Uf,h,hv⟩
 ·have:=x.dead b h; rw[N]at this; cases this
 ·rcases x.arr b v0 e0 Uf h with h1 | ⟨v1,x1,h1,X,h3⟩
  ·grind
  ·grind
theorem RD.mono{O E:KS}(x:Ext O E){d:D}{v:Value}(h:RD O d v):RD E d v:=by
 induction h with
 | qs τ y cs h=>exact .qs τ y cs (h.mono x.same)
 | vF e a=>exact .vF e a
 | tight e l ne blk off f ki ja h hc=>exact .tight e l ne blk off f ki (x.same _ ja).1 (λi hi=>(h i hi).mono x.same) λi hi j v hv=>by rw[lT (x.same _ ja).2]; exact hc i hi j v hv
 | sQ e l b v h ht hf=>exact .sQ e l b v (h.mono x.same) ht hf
 | wJ=>exact .wJ
 | gx=>exact .gx
 | ve=>exact .ve
 | gw=>exact .gw
 | uZ=>exact .uZ
 | Vv v h=>exact .Vv v h
 | nh T=>exact .nh T
 | nG b T d J =>
  obtain⟨⟨d',eE⟩,hp⟩:=x.var b d J
  exact .nG b T d' eE
 | yR b blk n d J h =>
  obtain⟨⟨d',eE⟩,hp⟩:=x.var b d J
  exact .yR b blk n d' eE (hp.trans h)
 | nH b T blk n d J h =>
  obtain⟨⟨d',eE⟩,hp⟩:=x.var b d J
  exact .nH b T blk n d' eE (hp.trans h)
 | ptr b off blk n d J h =>
  obtain⟨⟨d',eE⟩,hp⟩:=x.var b d J
  exact .ptr b off blk n d' eE (hp.trans h)
 | vH τ y cs blk off ja h hc=>exact .vH τ y cs blk off (x.same _ ja).1 (h.mono x.same) λj v hv=>by rw[lT (x.same _ ja).2]; exact hc j v hv
 | gP b vp e idx off blk o I h =>
  refine .gP b vp e idx off blk o (x.old I) λxs N hi => ?_
  obtain⟨Uf,h1,X,h3⟩:=x.back I N
  grind
 | ms b vp e off len cap a I js ha Va h =>
  refine .ms b vp e off len cap a (x.old I) js ha Va λxs N => ?_
  obtain⟨Uf,h1,X,h3⟩:=x.back I N
  have:=h Uf h1
  unfold Nu at this ⊢
  grind
 | wo f l vs R h ih=>exact .wo f l vs R ih
 | agg l vs R ho h ih=>exact .agg l vs R ho ih
 | eO l vs R h ih=>exact .eO l vs R ih
 | iface t d v h ih=>exact .iface t d v ih
end Go.AM
namespace Go.AM
section
variable {α β:Type}
theorem T.xh{t:T α}{k:α->T β}{b:β}:(t.bind k).leads b↔∃ a,t.leads a/\(k a).leads b:=by
 induction t with
 | ret a=>simp[T.bind,T.leads]
 | ite c t e i1 i2 =>
  simp only[T.bind,T.leads]
  grind
 | W p t ih =>
  simp only[T.bind,T.leads]; constructor
  ·grind
  ·grind
 | fail=>simp[T.bind,T.leads]
theorem T.IV{t:T α}{Q:α->Prop}(h:t.wp Q):∃ a,t.leads a/\Q a:=by
 induction t with
 | ret a=>exact⟨a,rfl,h⟩
 | ite c t e i1 i2 =>
  cases c with
  | true=>obtain⟨a,x,y⟩:=i1 (h.1 rfl); exact⟨a,.inl ⟨rfl,x⟩,y⟩
  | false=>obtain⟨a,x,y⟩:=i2 (h.2 rfl); exact⟨a,.inr ⟨rfl,x⟩,y⟩
 | W p t ih=>obtain⟨a,x,y⟩:=ih h.2; exact⟨a,⟨h.1,x⟩,y⟩
 | fail=>exact h.elim
theorem T.Y6{t:T α}{Q:α->Prop}{a:α}(h:t.leads a)(hq:Q a):t.wp Q:=by
 induction t with
 | ret x=>cases h; exact hq
 | ite c t e i1 i2 =>
  rcases h with⟨h1,X⟩ | ⟨h1,X⟩
  ·exact⟨λ_=>i1 X,λk=>absurd (h1.symm.trans k) (qp)⟩
  ·exact⟨λk=>absurd (h1.symm.trans k) (qp),λ_=>i2 X⟩
 | W p t ih=>exact⟨h.1,ih h.2⟩
 | fail=>exact h.elim
theorem T.yA{o:Option α}{a:α}:(T.H2 o).leads a↔o=some a:=by cases o<;>simp[T.H2,T.leads]
end
section
variable {O:KS}
theorem wQ.nil:wQ O [] []:=⟨rfl,λi h _=>absurd h (Nat.not_lt_zero i)⟩
theorem wQ.cons{d:D}{v:Value}{l:List D}{vs:List Value}(h:RD O d v)(t:wQ O l vs):wQ O (d::l) (v::vs) :=
 ⟨by simp[t.1],λi h1 X=>by cases i with | zero=>exact h | succ i=>exact t.2 i (wb) (wb)⟩
theorem wQ.cons_inv{d:D}{l:List D}{vs:List Value}(h:wQ O (d::l) vs):∃ v r,vs=v::r/\RD O d v/\wQ O l r:=by
 obtain⟨R,h⟩:=h
 cases vs with
 | nil=>simp at R
 | cons v r=>exact⟨v,r,rfl,h 0 (qp) (qp),wb,λi h1 X=>h (i+1) (wb) (wb)⟩
theorem wQ.wj{vs:List Value}(h:wQ O [] vs):vs=[]:=List.eq_nil_of_length_eq_zero h.1.symm
theorem wQ.append{l l':List D}{vs vs':List Value}(h:wQ O l vs)(h':wQ O l' vs'):wQ O (l++l') (vs++vs'):=by
 induction l generalizing vs with
 | nil=>rw[h.wj]; exact h'
 | cons d l ih=>obtain⟨v,r,rfl,h1,X⟩:=h.cons_inv; exact .cons h1 (ih X)
theorem wQ.Lm{l l':List D}{vs:List Value}(h:wQ O (l++l') vs):∃ v1 v2,vs=v1++v2/\wQ O l v1/\wQ O l' v2:=by
 induction l generalizing vs with
 | nil=>exact⟨[],vs,rfl,.nil,h⟩
 | cons d l ih =>
  obtain⟨v,r,rfl,h1,X⟩:=h.cons_inv
  obtain⟨v1,v2,rfl,h3,h4⟩:=ih X
  exact⟨v::v1,v2,rfl,.cons h1 h3,h4⟩
theorem wQ.get{l:List D}{vs:List Value}(h:wQ O l vs){i:Nat}{d:D}(J:l[i]? = some d):∃ v,vs[i]? = some v/\RD O d v:=by
 obtain⟨wO,he⟩:=List.getElem?_eq_some_iff.1 J
 have X:i<vs.length:=h.1▸wO
 exact⟨vs[i],zP X,he▸h.2 i wO X⟩
theorem wQ.take{l:List D}{vs:List Value}(h:wQ O l vs)(n:Nat):wQ O (l.take n) (vs.take n) :=
 ⟨by simp[h.1],λi h1 X=>by simp; exact h.2 i (wb) (wb)⟩
theorem wQ.drop{l:List D}{vs:List Value}(h:wQ O l vs)(n:Nat):wQ O (l.drop n) (vs.drop n) :=
 ⟨by simp[h.1],λi h1 X=>by simp; exact h.2 (n+i) (wb) (wb)⟩
theorem wQ.mono{E:KS}(x:Ext O E){l:List D}{vs:List Value}(h:wQ O l vs):wQ E l vs:=⟨h.1,λi h1 X=>(h.2 i h1 X).mono x⟩
theorem Jk{τ:Ty}{cs:List Value}(h:cs.length=τ.size)(Qa:∀ v∈cs,v.oneCell'=true):(pk τ cs).cells.toList=cs:=by
 unfold pk
 split
 ·rfl
 ·rename_i hn
  have hs:τ.size=1:=by cases τ<;>simp[Ty.isAgg]at hn<;>rfl
  match cs,h,Qa with
  | [v],_,Qa =>
   have:=Qa v (qp)
   cases v<;>first | rfl | cases this
  | [],h,_=>grind
  | _::_::_,h,_=>grind
theorem Hb{τ:Ty}(h:τ.isAgg=false)(v:Value):pk τ [v]=v:=by simp[pk,h]
theorem KT{τ:Ty}(h:τ.isAgg=false):τ.size=1:=by cases τ<;>simp[Ty.isAgg]at h<;>rfl
theorem Rc.single{w:World}{ok:Nat->Prop}{τ:Ty}{x:den τ}{cs:List Value}(h:Rc w ok τ x cs)(ht:τ.isAgg=false):∃ v,cs=[v]:=by
 have:=h.len
 rw[KT ht]at this
 match cs,this with
 | [v],_=>simp
theorem RD.Zn{τ:Ty}{x:den τ}{v:Value}(ht:τ.isAgg=false)(h:Rc O.w O.ok τ x [v]):RD O (.qs τ x) v:=by
 have:=RD.qs τ x [v] h
 rwa [Hb ht]at this
theorem RD.cY{τ:Ty}{x:den τ}{v:Value}(h:RD O (.qs τ x) v):∃ cs,Rc O.w O.ok τ x cs/\v=pk τ cs:=by
 cases h with | qs _ _ cs h=>exact⟨cs,h,rfl⟩
theorem RD.jN{τ:Ty}{x:den τ}{v:Value}(h:RD O (.qs τ x) v)(ht:τ.isAgg=false):Rc O.w O.ok τ x [v]:=by
 obtain⟨cs,hc,rfl⟩:=RD.cY h
 obtain⟨u,rfl⟩:=hc.single ht
 rwa [Hb ht]
theorem RD.int{k:IntKind}{n:Int}:RD O (.qs (.int k) n) (.int k n):=RD.Zn rfl (.int k n)
theorem RD.bool{b:Bool}:RD O (.qs .bool b) (.bool b):=RD.Zn rfl (.bool b)
theorem RD.str{s:q9}:RD O (.qs .str s) (.string ⟨s.toArray⟩):=RD.Zn rfl (.str s)
theorem RD.dX{k:IntKind}{n:Int}{v:Value}(h:RD O (.qs (.int k) n) v):v=.int k n:=by have:=(h.jN rfl).dX; simpa using this
theorem RD.cA{b:Bool}{v:Value}(h:RD O (.qs .bool b) v):v=.bool b:=by have:=(h.jN rfl).cA; simpa using this
theorem RD.jl{s:q9}{v:Value}(h:RD O (.qs .str s) v):v=.string ⟨s.toArray⟩:=by have:=(h.jN rfl).jl; simpa using this
theorem wQ.one{d:D}{v:Value}(h:RD O d v):wQ O [d] [v]:=.cons h .nil
theorem Xw{τ:Ty}{x:den τ}{cs:List Value}(h:Rc O.w O.ok τ x cs):wQ O (flat τ x) cs:=by
 induction τ generalizing cs with
 | int k=>obtain⟨v,rfl⟩:=h.single rfl; exact .one (.Zn rfl h)
 | bool=>obtain⟨v,rfl⟩:=h.single rfl; exact .one (.Zn rfl h)
 | str=>obtain⟨v,rfl⟩:=h.single rfl; exact .one (.Zn rfl h)
 | sl e _=>obtain⟨v,rfl⟩:=h.single rfl; exact .one (.Zn rfl h)
 | nil=>rw[h.wj]; exact .nil
 | cons a b i1 i2=>obtain⟨c1,c2,rfl,h1,X⟩:=h.cons_inv; exact(i1 h1).append (i2 X)
 | expr =>
  obtain⟨c1,r1,rfl,h1,t1⟩:=h.Fp.cons_inv
  obtain⟨c2,r2,rfl,X,t2⟩:=t1.cons_inv
  obtain⟨c3,r3,rfl,h3,t3⟩:=t2.cons_inv
  obtain⟨c4,r4,rfl,h4,t4⟩:=t3.cons_inv
  have e4:=t4.wj
  subst e4
  obtain⟨d1,s1,rfl,g1,u1⟩:=X.cons_inv
  obtain⟨d2,s2,rfl,g2,u2⟩:=u1.cons_inv
  obtain⟨d3,s3,rfl,g3,u3⟩:=u2.cons_inv
  have e5:=u3.wj
  subst e5
  obtain⟨v1,rfl⟩:=h1.single rfl
  obtain⟨v3,rfl⟩:=h3.single rfl
  obtain⟨v4,rfl⟩:=h4.single rfl
  obtain⟨u1,rfl⟩:=g1.single rfl
  obtain⟨u2,rfl⟩:=g2.single rfl
  obtain⟨u3,rfl⟩:=g3.single rfl
  exact .cons (.Zn rfl h1) (.cons (.Zn rfl g1) (.cons (.Zn rfl g2) (.cons (.Zn rfl g3) (.cons (.Zn rfl h3) (.cons (.Zn rfl h4) .nil)))))
theorem rH:∀ (τ:Ty) (x:den τ),∀ d∈flat τ x,d.one=true
 | .int _,_,d,h | .bool,_,d,h | .str,_,d,h | .sl _,_,d,h=>by simp[flat]at h; subst h; rfl
 | .nil,_,d,h=>by simp[flat]at h
 | .cons a b,x,d,h=>by
  simp only[flat,List.mem_append]at h
  rcases h with h | h
  ·exact rH a x.1 d h
  ·exact rH b x.2 d h
 | .expr,x,d,h=>by simp[flat]at h; rcases h with rfl | rfl | rfl | rfl | rfl | rfl<;>rfl
theorem UL:∀ (τ:Ty) (x:den τ),(flat τ x).length=τ.size
 | .int _,_ | .bool,_ | .str,_ | .sl _,_ | .nil,_ | .expr,_=>rfl
 | .cons a b,x=>by simp[flat,Ty.size,UL a,UL b]
theorem WK{v:Value}(h:v.oneCell'=true):v.cells = #[v]:=by
 cases v<;>first | rfl | cases h
theorem cI{d:D}{v:Value}(h:RD O d v)(ht:d.bF=false):wQ O (we d) v.cells.toList:=by
 cases h with
 | qs τ x cs h=>rw[Jk h.len h.one]; exact Xw h
 | agg l vs R ho h=>exact⟨by simpa[qA,we]using R,λi h1 X=>by simp at X ⊢; exact h i h1 X⟩
 | eO=>cases ht
 | vF e a=>exact .one (.vF e a)
 | tight e l ne blk off f ki ja h hc=>exact .one (.tight e l ne blk off f ki ja h hc)
 | sQ e l b v h ht hf=>rw[WK (h.one v (qp))]; exact .one (.sQ e l b v h ht hf)
 | wJ=>exact .one .wJ
 | gx=>exact .one .gx
 | ve=>exact .one .ve
 | gw=>exact .one .gw
 | uZ=>exact .one .uZ
 | Vv v h=>rw[WK h]; exact .one (.Vv v h)
 | nh T=>exact .one (.nh T)
 | yR b blk n d J h=>exact .one (.yR b blk n d J h)
 | nG b T d J=>exact .one (.nG b T d J)
 | nH b T blk n d J h=>exact .one (.nH b T blk n d J h)
 | ptr b off blk n d J h=>exact .one (.ptr b off blk n d J h)
 | vH τ x cs blk off ja h hc=>exact .one (.vH τ x cs blk off ja h hc)
 | gP b vp e idx off blk o I h=>exact .one (.gP b vp e idx off blk o I h)
 | ms b vp e off len cap a I js ha Va h=>exact .one (.ms b vp e off len cap a I js ha Va h)
 | wo f l vs R h=>rw[G3]; exact .one (.wo f l vs R h)
 | iface t d v h=>exact .one (.iface t d v h)
theorem cH{d:D}{v:Value}(h:RD O d v):∀ x∈we d,x.one=true:=by
 cases h with
 | qs τ x cs h=>exact rH τ x
 | agg l vs R ho h=>exact ho
 | eO=>nofun
 | _=>intro x N; simp[we]at N; subst N; rfl
theorem RD.YC{d:D}{v:Value}(h:RD O d v)(ho:d.one=true):v.oneCell'=true:=by
 cases h with
 | qs τ x cs h =>
  have ht:τ.isAgg=false:=by simpa[D.one]using ho
  obtain⟨v,rfl⟩:=h.single ht
  rw[Hb ht]
  exact h.one v (qp)
 | agg=>cases ho
 | eO=>cases ho
 | Vv v h=>exact h
 | wo f l vs=>exact z0U f vs
 | sQ e l b v h=>exact h.one v (qp)
 | _=>rfl
theorem wk{a b:Ty}{x:den a}{y:den b}(h:(jV x:Option (den b))=some y):∃ e:a=b,y=e▸x:=by
 unfold jV at h
 grind
theorem eI{τ:Ty}{d:D}{v:Value}{x:den τ}(h:RD O d v)(N:pU τ d=some x)(ht:τ.isAgg=false):Rc O.w O.ok τ x [v]:=by
 cases h with
 | qs σ y cs h =>
  obtain⟨rfl,rfl⟩:=wk N
  obtain⟨u,rfl⟩:=h.single ht
  rwa [Hb ht]
 | vF e a=>obtain⟨rfl,rfl⟩:=wk N; exact .lK e a
 | tight e l ne blk off f ki ja h hc=>obtain⟨rfl,rfl⟩:=wk N; exact .sl e _ blk off _ f ja (zF _) h hc
 | sQ e l b v h ht hf=>obtain⟨rfl,rfl⟩:=wk N; exact h
 | wJ =>
  cases τ with
  | sl e=>simp[pU]at N; subst N; exact .lK e none
  | _=>simp[pU]at N
 | _=>simp[pU]at N
theorem V3:∀ (τ:Ty) {ds:List D} {vs:List Value} {x:den τ} {r:List D},wQ O ds vs->cT τ ds=some (x,r) ->
  ∃ c1 c2,vs=c1++c2/\Rc O.w O.ok τ x c1/\wQ O r c2
 | .int k,[],_,_,_,_,he | .bool,[],_,_,_,_,he | .str,[],_,_,_,_,he | .sl e,[],_,_,_,_,he | .expr,[],_,_,_,_,he=>by simp[cT]at he
 | .int k,d::r,vs,x,r',h,he=>by
  simp only[cT]at he
  split at he
  ·rename_i y hy; cases he; obtain⟨v,u,rfl,h1,X⟩:=h.cons_inv; exact⟨[v],u,rfl,eI h1 hy rfl,X⟩
  ·cases he
 | .bool,d::r,vs,x,r',h,he=>by
  simp only[cT]at he
  split at he
  ·rename_i y hy; cases he; obtain⟨v,u,rfl,h1,X⟩:=h.cons_inv; exact⟨[v],u,rfl,eI h1 hy rfl,X⟩
  ·cases he
 | .str,d::r,vs,x,r',h,he=>by
  simp only[cT]at he
  split at he
  ·rename_i y hy; cases he; obtain⟨v,u,rfl,h1,X⟩:=h.cons_inv; exact⟨[v],u,rfl,eI h1 hy rfl,X⟩
  ·cases he
 | .sl e,d::r,vs,x,r',h,he=>by
  simp only[cT]at he
  split at he
  ·rename_i y hy; cases he; obtain⟨v,u,rfl,h1,X⟩:=h.cons_inv; exact⟨[v],u,rfl,eI h1 hy rfl,X⟩
  ·cases he
 | .nil,ds,vs,x,r,h,he=>by simp only[cT]at he; cases he; exact⟨[],vs,rfl,.nil,h⟩
 | .cons a b,ds,vs,x,r,h,he=>by
  simp only[cT]at he
  split at he
  ·rename_i y r' hy
   split at he
   ·rename_i z r'' hz
    cases he
    obtain⟨c1,c2,rfl,h1,X⟩:=V3 a h hy
    obtain⟨c3,c4,rfl,h3,h4⟩:=V3 b X hz
    exact⟨c1++c3,c4,qp,.cons a b y z c1 c3 h1 h3,h4⟩
   ·cases he
  ·cases he
 | .expr,d::r,vs,x,r',h,he=>by
  simp only[cT]at he
  split at he
  ·cases he
  ·rename_i k hk
   split at he
   ·rename_i d1 d2 d3 d4 d5 r0
    split at he
    ·rename_i a n m s l ha hn hm hs R
     cases he
     obtain⟨v,u,rfl,h0,t0⟩:=h.cons_inv
     obtain⟨v1,u1,rfl,h1,t1⟩:=t0.cons_inv
     obtain⟨v2,u2,rfl,X,t2⟩:=t1.cons_inv
     obtain⟨v3,u3,rfl,h3,t3⟩:=t2.cons_inv
     obtain⟨v4,u4,rfl,h4,t4⟩:=t3.cons_inv
     obtain⟨v5,u5,rfl,h5,t5⟩:=t4.cons_inv
     refine⟨[v]++(([v1]++([v2]++([v3]++[])))++([v4]++([v5]++[]))),u5,qp,.expr _ _ _ _ _ ?_,t5⟩
     exact .cons i64 _ k _ _ _ (eI h0 hk rfl) (.cons Co _ (a,n,m,()) _ _ _ (.cons .bool _ a _ _ _ (eI h1 ha rfl) (.cons _ _ n _ _ _ (eI X hn rfl) (.cons _ _ m _ _ _ (eI h3 hm rfl) .nil)))
      (.cons .str _ s _ _ _ (eI h4 hs rfl) (.cons _ _ l _ _ _ (eI h5 R rfl) .nil)))
    ·cases he
   ·cases he
theorem mG{τ:Ty}{d:D}{v:Value}{x:den τ}(h:RD O d v)(N:oQ τ d=some x):RD O (.qs τ x) v:=by
 have key:(∀ σ y,d≠.qs σ y)->(bif (d.isAgg==τ.isAgg) && !d.bF then(match cT τ (we d)with | some (x,[])=>some x | _=>none)else none)=some x->RD O (.qs τ x) v:=by
  intro hni N
  cases hc:(d.isAgg==τ.isAgg) && !d.bF with
  | false=>grind
  | true =>
  rw[hc]at N
  simp at hc
  obtain⟨zdh,Ba⟩:=hc
  split at N
  ·rename_i y hy
   cases N
   obtain⟨c1,c2,he,h1,X⟩:=V3 τ (cI h Ba) hy
   have e2:=X.wj
   subst e2
   rw[List.append_nil]at he
   have hv:v=pk τ c1:=by
    rw[<- he]
    cases J:d.isAgg with
    | true =>
     cases d<;>simp[D.isAgg]at J
     cases h with | agg l vs R ho h=>simp[pk,D.isAgg]at zdh ⊢; simp[<- zdh,qA]
    | false =>
     simp only[pk,<- zdh]
     cases h<;>first | rfl | (rw[G3]; rfl) | (rename_i h _ _; rw[WK (h.one _ (List.mem_singleton.2 rfl))]; rfl) | (rename_i hu; rw[WK hu]; rfl) | (rename_i σ y cs hc; exact absurd rfl (hni σ y)) | (simp at J; done) | (simp at Ba; done)
   rw[hv]
   exact .qs τ _ c1 h1
  ·cases N
 cases d with
 | qs σ y=>obtain⟨rfl,rfl⟩:=wk N; exact h
 | Cg l=>cases N
 | _=>exact key (λ_ _=>nofun) N
end
end Go.AM
namespace Go.AM
set_option linter.unusedSectionVars false
variable [gp]
def wB(P:Program)(s:Sem Next)(O:KS)(d:Option D)(qt:St):Prop :=
 ∃ (E:KS) (n:Next) (v:Value),s.run P O.w=.ok n E.w/\(n=.value v\/(n=.skip/\v=undef))/\E.st=qt/\Inv E/\Ext O E/\∀ d',d=some d'->RD E d' v
section
variable {c:Ctx} {O:KS}
theorem wB.pure{s:Sem Value}{d:D}{v:Value}(hi:Inv O)(h:s.run c.P O.w=.ok v O.w)(J:RD O d v):wB c.P (do zG (.value (<- s))) O (some d) O.st :=
 ⟨O,.value v,v,by simp[h],.inl rfl,rfl,hi,Ext.refl O,λ_ he=>wb⟩
theorem wB.val{d:Option D}{v:Value}(hi:Inv O)(J:∀ d',d=some d'->RD O d' v):wB c.P (zG (.value v)) O d O.st :=
 ⟨O,.value v,v,rfl,.inl rfl,rfl,hi,Ext.refl O,J⟩
theorem mA{t n:Nat}(h:tJ c t=some n):∃ i,c.P.info? t=some i/\i.size=n:=by
 unfold tJ at h
 cases hi:c.P.info? t with
 | none=>grind
 | some i=>grind
theorem run_sizeOf{t n:Nat}(h:tJ c t=some n)(w:World):(sizeOf t).run c.P w=.ok n w:=by
 obtain⟨i,h1,X⟩:=mA h
 simp[sizeOf,typeInfo,h1,X]
theorem WW{t:Nat}{b:Bool}(h:EG c t=some b)(w:World):(isAgg t).run c.P w=.ok b w:=by
 unfold EG at h
 cases hu:c.P.underlying t with
 | none=>grind
 | some d =>
  simp only[isAgg,M,run_underlying hu]
  cases d<;>simp[hu]at h<;>simp[<- h]
theorem kh{t:Nat}{τ:Ty}(h:ct c t τ=true):tJ c t=some τ.size/\EG c t=some τ.isAgg:=by
 unfold ct at h
 simp at h
 obtain⟨⟨_,h1⟩,X⟩:=h
 constructor
 ·split at h1
  ·rename_i n hn; rw[hn,zE h1]
  ·cases h1
 ·grind
theorem Jf{t:Nat}{τ:Ty}(h:ct c t τ=true):zbW τ t:=by
 unfold ct at h
 simp at h
 intro e
 subst e
 exact zE h.1.1
omit [gp]in
theorem addr_add(blk o j:Nat):(⟨blk,o,none⟩:Addr).add j=⟨blk,o+j,none⟩:=by unfold Addr.add; split<;>simp_all
theorem tC{t:Nat}{b:Bool}{n blk o:Nat}{cs:List Value}(ha:EG c t=some b)(hn:tJ c t=some n)(R:cs.length=n)(h1:b=false->n=1)
  (hc:∀ j v,cs[j]? = some v->O.w.cell? ⟨blk,o+j,none⟩=some v) :
  (loadVar t ⟨blk,o,none⟩).run c.P O.w=.ok (if b then .agg cs.toArray else cs.headD undef) O.w:=by
 simp only[loadVar,M,WW ha]
 cases b with
 | true =>
  simp[if_true,run_sizeOf hn]
  rw[<- R,run_loadCells_list O.w ⟨blk,o,none⟩ cs (λj v hj=>by rw[addr_add]; exact hc j v hj)]
  simp
 | false =>
  have:=h1 rfl
  subst this
  match cs,R with
  | [v],_ =>
   have:=hc 0 v rfl
   simp at this
   simp[this]
theorem z2k{t:Nat}{τ:Ty}{x:den τ}{cs:List Value}{blk o:Nat}(ht:ct c t τ=true)(h:Rc O.w O.ok τ x cs)
  (hc:∀ j v,cs[j]? = some v->O.w.cell? ⟨blk,o+j,none⟩=some v):(loadVar t ⟨blk,o,none⟩).run c.P O.w=.ok (pk τ cs) O.w:=by
 obtain⟨h1,X⟩:=kh ht
 rw[tC (c:=c) X h1 h.len (λe=>KT e) hc]
 rfl
theorem kV{t:T (Option D)}{st qt:St}{d:Option D}:(qx (.val t) st).leads (d,qt)↔t.leads d/\qt=st:=by
 simp only[qx,T.xh,T.leads]
 grind
theorem rT{k:St->T (Option D)}{st qt:St}{d:Option D}:(qx (.rd k) st).leads (d,qt)↔(k st).leads d/\qt=st:=by
 simp only[qx,T.xh,T.leads]
 grind
theorem zj{st:St}{r:Option D×St}:¬ (qx bad st).leads r:=by nofun
theorem dF{x:D}{st qt:St}{d:Option D}:(qx (AM.val x) st).leads (d,qt)↔d=some x/\qt=st:=by
 rw[AM.val,kV]; simp only[T.leads]; exact⟨λh=>⟨h.1.symm,h.2⟩,λh=>⟨h.1.symm,h.2⟩⟩
theorem yE{p:Prop}{x:D}{st qt:St}{d:Option D}:(qx (.val (.W p (.ret (some x)))) st).leads (d,qt)↔p/\d=some x/\qt=st:=by
 rw[kV]; simp only[T.leads]
 grind
theorem GI{x:Option D}{st qt:St}{d:Option D}(h:(qx (zak x) st).leads (d,qt)):∃ y,x=some y/\d=some y/\qt=st:=by
 cases x with
 | none=>exact absurd h zj
 | some y=>rw[zak,kV]at h; exact⟨y,rfl,h.1.symm,h.2⟩
theorem Yr:∀ (τ:Ty) (x:den τ) {cs:List Value},wQ O (flat τ x) cs->Rc O.w O.ok τ x cs
 | .int k,x,cs,h=>by obtain⟨v,r,rfl,h1,X⟩:=h.cons_inv; rw[X.wj]; exact h1.jN rfl
 | .bool,x,cs,h=>by obtain⟨v,r,rfl,h1,X⟩:=h.cons_inv; rw[X.wj]; exact h1.jN rfl
 | .str,x,cs,h=>by obtain⟨v,r,rfl,h1,X⟩:=h.cons_inv; rw[X.wj]; exact h1.jN rfl
 | .sl e,x,cs,h=>by obtain⟨v,r,rfl,h1,X⟩:=h.cons_inv; rw[X.wj]; exact h1.jN rfl
 | .nil,x,cs,h=>by rw[h.wj]; exact .nil
 | .cons a b,x,cs,h=>by
  obtain⟨c1,c2,rfl,h1,X⟩:=wQ.Lm h
  exact .cons a b x.1 x.2 c1 c2 (Yr a x.1 h1) (Yr b x.2 X)
 | .expr,.mk k (a,n,m,()) s l,cs,h=>by
  obtain⟨v,u,rfl,h0,t0⟩:=h.cons_inv
  obtain⟨v1,u1,rfl,h1,t1⟩:=t0.cons_inv
  obtain⟨v2,u2,rfl,X,t2⟩:=t1.cons_inv
  obtain⟨v3,u3,rfl,h3,t3⟩:=t2.cons_inv
  obtain⟨v4,u4,rfl,h4,t4⟩:=t3.cons_inv
  obtain⟨v5,u5,rfl,h5,t5⟩:=t4.cons_inv
  rw[t5.wj]
  exact .expr _ _ _ _ _ (.cons i64 _ k _ _ _ (h0.jN rfl) (.cons Co _ (a,n,m,()) _ _ _ (.cons .bool _ a _ _ _ (h1.jN rfl) (.cons (.sl u32) (.cons (.sl u32) .nil) n (m,()) [v2] ([v3]++[]) (X.jN rfl) (.cons (.sl u32) .nil m () [v3] [] (h3.jN rfl) .nil)))
      (.cons .str _ s _ _ _ (h4.jN rfl) (.cons (.sl .expr) .nil l () [v5] [] (h5.jN rfl) .nil))))
theorem RW{t:Nat}{d r:D}{off:Nat}{vs:List Value}(h:N5 c t d off=some r)(J:wQ O (we d) vs)(Qa:∀ x∈we d,x.one=true) :
  (∃ n,EG c t=some true/\tJ c t=some n/\off+n<=vs.length/\RD O r (.agg ((vs.drop off).take n).toArray)) \/
  (∃ v,EG c t=some false/\vs[off]? = some v/\RD O r v):=by
 unfold N5 at h
 split at h
 ·rename_i ha
  split at h
  ·cases h
  ·rename_i n hn
   refine .inl ⟨n,ha,hn,?_⟩
   cases I:(zA off 0&&zA n (we d).length&&d.zg0)with
   | true =>
    rw[I]at h
    simp at h
    subst h
    simp only[zM]at I
    obtain⟨⟨h1,X⟩,h3⟩:=I
    have e1:off=0:=zE h1
    have e2:n=(we d).length:=zE X
    subst e1
    have R:=J.1
    rw[e2,R]
    refine⟨Z,?_⟩
    simp
    cases d with
    | qs τ x =>
     have:=RD.qs τ x vs (Yr τ x J)
     simpa[pk,show τ.isAgg=true from h3]using this
    | agg l=>exact .agg l vs R Qa J.2
    | _=>cases h3
   | false =>
    rw[I]at h
    split at h
    ·rename_i l R
     cases h
     unfold CE at R
     cases hle:zJ (off+n) (we d).length with
     | false=>grind
     | true =>
      rw[hle]at R
      cases R
      have B5:=zK hle
      refine⟨by rw[<- J.1]; exact B5,?_⟩
      have ht:=(J.drop off).take n
      exact .agg _ _ ht.1 (λx N=>Qa x (List.mem_of_mem_drop (List.mem_of_mem_take N))) ht.2
    ·cases h
 ·rename_i ha
  obtain⟨v,h1,X⟩:=J.get h
  grind
 ·cases h
theorem GK{t:Nat}{d r:D}{off blk:Nat}{vs:List Value}(base:Nat)(h:N5 c t d off=some r)(J:wQ O (we d) vs)(Qa:∀ x∈we d,x.one=true)
  (hc:∀ j v,vs[j]? = some v->O.w.cell? ⟨blk,base+j,none⟩=some v):∃ v,(loadVar t ⟨blk,base+off,none⟩).run c.P O.w=.ok v O.w/\RD O r v:=by
 rcases RW h J Qa with⟨n,ha,hn,hle,hr⟩ | ⟨v,ha,hv,hr⟩
 ·refine⟨_,?_,hr⟩
  rw[tC (c:=c) (b:=true) (cs:=(vs.drop off).take n) ha hn (wb) nofun]
  ·simp
  ·grind
 ·refine⟨v,?_,hr⟩
  simp only[loadVar,M,WW ha]
  simp[hc off v hv]
theorem WH{blk:Nat}{cs:Array Value}{t:TypeId}{fz:Nat×Nat}(h:O.w.heap[blk]? = some (.cells cs t fz))(o:Nat):O.w.cell? ⟨blk,o,none⟩=cs[o]? := by
 simp[World.cell?,h]
theorem TI{t:Nat}{x:Option D}{v:Value}{d:Option D}{qt:St}(hi:Inv O)(N:∀ y,x=some y->RD O y v)(h:(qx (VN c t x) O.st).leads (d,qt)) :
  wB c.P (do zG (.value (<- zW t v))) O d qt:=by
 unfold VN at h
 split at h
 ·rename_i τ y
  cases ht:ct c t τ with
  | false=>rw[ht]at h; exact absurd h zj
  | true =>
   rw[ht,cond_true,dF]at h
   obtain⟨rfl,rfl⟩:=h
   cases N _ rfl with
   | vH _ _ cs blk off ja hr hc =>
    exact wB.pure hi (by simp[zW,zQ,z2k ht hr hc]) (.qs τ y cs hr)
 ·rename_i b off
  rw[rT]at h
  obtain⟨h,rfl⟩:=h
  split at h
  ·rename_i d0 I
   cases Yd:d0.Gq with
   | true=>rw[Yd]at h; exact h.elim
   | false =>
   rw[Yd,cond_false]at h
   split at h
   ·rename_i r hr
    cases h
    cases N _ rfl with
    | ptr _ _ blk n d1 J hp =>
     obtain⟨pS,n',cs,T,g1,g2,g3,g4,g5⟩:=(hi.blk b _ I:kX O b d0).cells Yd
     rw[hp]at g1
     cases g1
     obtain⟨v,h1,X⟩:=GK (c:=c) (blk:=blk) 0 hr g4 g5.1 (λj v hj=>by rw[WH g2]; simpa using hj)
     rw[Nat.zero_add]at h1
     exact wB.pure hi (by simp[zW,zQ,h1]) X
   ·exact h.elim
  ·exact h.elim
 ·rename_i b vp e idx off
  rw[rT]at h
  obtain⟨h,rfl⟩:=h
  split at h
  ·rename_i dO e' xs I
   cases he:decide (e'=e)with
   | false=>rw[he]at h; exact h.elim
   | true =>
    rw[he,cond_true]at h
    have M6:e'=e:=uf he
    subst M6
    obtain⟨⟨rfl,wO⟩,h⟩:=h
    split at h
    ·rename_i r hr
     cases h
     cases N _ rfl with
     | gP _ _ _ _ _ blk o hold hp =>
      obtain⟨n,p1,rfl⟩:=hp xs I wO
      obtain⟨bR,⟨Gj,_⟩ | ⟨pS,n',cs,T,g1,g2,g3,g4,gr,f,g5⟩⟩:=hi.blk b _ I
      ·grind
      ·rw[p1]at g1
       cases g1
       have hg:xs.getD idx (zb e')=xs[idx]:=by simp[zR,zP wO]
       rw[hg]at hr
       obtain⟨k1,k2⟩:=g5 idx wO
       obtain⟨v,h1,X⟩:=GK (c:=c) (blk:=blk) (idx*e'.size) hr (Xw k1) (rH _ _) (λj v hj=>by rw[WH g2]; exact k2 j v hj)
       exact wB.pure hi (by simp[zW,zQ,h1]) X
    ·exact h.elim
  ·exact h.elim
 ·exact absurd h zj
end
end Go.AM
namespace Go.AM
set_option linter.unusedSectionVars false
variable [gp]
section
variable {c:Ctx} {O:KS}
theorem Dh{s f o n:Nat}(h:Yp c s f=some (o,n)):∃ fs fd,c.P.underlying s=some (.struct fs)/\fs[f]? = some fd/\tJ c fd.type=some n/\n≠0/\fd.offset=o:=by
 unfold Yp at h
 split at h
 ·rename_i fs hu
  split at h
  ·rename_i fd hf
   split at h
   ·rename_i m hm
    cases I:zA m 0 with
    | true=>grind
    | false =>
     rw[I]at h
     cases h
     refine⟨fs,fd,hu,hf,hm,?_,rfl⟩
     intro e
     subst e
     cases I
   ·cases h
  ·cases h
 ·cases h
theorem W7{s f o n blk p:Nat}(h:Yp c s f=some (o,n))(w:World) :
  (qB s (.pointer (some ⟨blk,p,none⟩)) f).run c.P w=.ok (.pointer (some ⟨blk,p+o,none⟩)) w:=by
 obtain⟨fs,fd,h1,X,h3,h4,h5⟩:=Dh h
 simp[qB,run_underlying h1,X,zQ,fieldPlace,run_sizeOf h3,h4,addr_add]
theorem Gc:∀ (τ:Ty) (x:den τ) (n:Nat) {d:D} {o s:Nat} {cs:List Value},Xx τ x n=some (d,o,s)->Rc O.w O.ok τ x cs ->
  ∃ (σ:Ty) (y:den σ) (c2:List Value),d=.vH σ y/\Rc O.w O.ok σ y c2/\s=σ.size/\∀ j v,c2[j]? = some v->cs[o+j]? = some v
 | .cons a b,x,0,d,o,s,cs,h,hr=>by
  simp only[Xx]at h
  cases h
  obtain⟨c1,c2,rfl,h1,X⟩:=hr.cons_inv
  grind
 | .cons a b,x,n+1,d,o,s,cs,h,hr=>by
  simp only[Xx]at h
  split at h
  ·rename_i d' o' s' h'
   cases h
   obtain⟨c1,c2,rfl,h1,X⟩:=hr.cons_inv
   obtain⟨σ,y,c3,e1,e2,e3,e4⟩:=Gc b x.2 n h' X
   refine⟨σ,y,c3,e1,e2,e3,λj v hj => ?_⟩
   have:=h1.len
   grind
  ·cases h
 | .expr,.mk k (a,n,m,()) s l,i,d,o,z,cs,h,hr=>by
  obtain⟨c1,r1,rfl,h1,t1⟩:=hr.Fp.cons_inv
  obtain⟨c2,r2,rfl,X,t2⟩:=t1.cons_inv
  obtain⟨c3,r3,rfl,h3,t3⟩:=t2.cons_inv
  obtain⟨c4,r4,rfl,h4,t4⟩:=t3.cons_inv
  have e4:=t4.wj
  subst e4
  have l2:c2.length=3:=X.len
  obtain⟨v1,rfl⟩:=h1.single rfl
  obtain⟨v3,rfl⟩:=h3.single rfl
  obtain⟨v4,rfl⟩:=h4.single rfl
  match i,h with
  | 0,h=>simp only[Xx]at h; cases h; exact⟨i64,_,_,rfl,h1,rfl,λj v hj=>by match j,hj with | 0,hj=>simpa using hj⟩
  | 1,h => 
   simp only[Xx]at h; cases h
   refine⟨Co,_,_,rfl,X,rfl,λj v hj => ?_⟩
   grind
  | 2,h =>
   simp only[Xx]at h; cases h
   refine⟨.str,_,_,rfl,h3,rfl,λj v hj => ?_⟩
   grind
  | 3,h =>
   simp only[Xx]at h; cases h
   refine⟨.sl .expr,_,_,rfl,h4,rfl,λj v hj => ?_⟩
   match j,hj with
   | 0,hj =>
    simp only[List.cons_append,List.nil_append,Nat.add_zero,List.getElem?_cons_succ]
    rw[List.getElem?_append_right (Z),l2]; simpa using hj
  | n+4,h=>simp[Xx]at h
 | .int _,_,_,_,_,_,_,h,_ | .bool,_,_,_,_,_,_,h,_ | .str,_,_,_,_,_,_,h,_ | .sl _,_,_,_,_,_,_,h,_ | .nil,_,_,_,_,_,_,h,_=>by simp[Xx]at h
theorem Ga{s f:Nat}{x:Option D}{v:Value}{d:Option D}{qt:St}(hi:Inv O)(N:∀ y,x=some y->RD O y v)(h:(qx (Xv c s f x) O.st).leads (d,qt)) :
  wB c.P (do zG (.value (<- qB s v f))) O d qt:=by
 unfold Xv at h
 split at h
 ·exact absurd h zj
 ·rename_i o n hf
  split at h
  ·rename_i τ y
   split at h
   ·rename_i d' o' n' KD
    cases I:zA o o'&&zA n n' with
    | false=>rw[I]at h; exact absurd h zj
    | true =>
     rw[I,cond_true,dF]at h
     obtain⟨rfl,rfl⟩:=h
     simp only[zM]at I
     have e1:o=o':=zE I.1
     subst e1
     cases N _ rfl with
     | vH _ _ cs blk off ja hr hc =>
      obtain⟨σ,z,c2,rfl,g1,g2,g3⟩:=Gc τ y f KD hr
      exact wB.pure hi (W7 hf O.w) (.vH σ z c2 blk (off+o) ja g1 λj u hj=>wb)
   ·exact absurd h zj
  ·rename_i b off
   obtain⟨rfl,rfl⟩:=h
   cases N _ rfl with
   | ptr _ _ blk n d J hp=>exact wB.pure hi (W7 hf O.w) (.ptr b (off+o) blk n d J hp)
  ·rename_i b vp e idx off
   obtain⟨rfl,rfl⟩:=h
   cases N _ rfl with
   | gP _ _ _ _ _ blk p hold hp =>
    refine wB.pure hi (W7 hf O.w) (.gP b vp e idx (off+o) blk (p+o) hold λxs h1 X => ?_)
    grind
  ·exact absurd h zj
theorem LU{s f:Nat}{x:Option D}{v:Value}{d:Option D}{qt:St}(hi:Inv O)(N:∀ y,x=some y->RD O y v)(h:(qx (Di c s f x) O.st).leads (d,qt)) :
  wB c.P (do zG (.value (<- qD s v f))) O d qt:=by
 unfold Di at h
 split at h
 ·rename_i fs hu
  split at h
  ·rename_i fd hf
   split at h
   ·rename_i y
    obtain⟨r,hr,rfl,rfl⟩:=GI h
    cases hag:y.cQ with
    | false=>grind
    | true =>
    rw[hag,cond_true]at hr
    have hy:=N _ rfl
    have ⟨vs,hv,hvs⟩:∃ vs,v=.agg vs/\wQ O (we y) vs.toList:=by
     have hfd:=cI hy (by cases y<;>simp[D.cQ,D.bF]at hag ⊢)
     cases hy<;>simp[D.cQ]at hag
     ·rename_i τ z cs hc
      exact⟨cs.toArray,by simp[pk,hag],by simpa[pk,hag,qA]using hfd⟩
     ·rename_i l vs R ho hh
      exact⟨vs.toArray,rfl,by simpa[qA]using hfd⟩
    subst hv
    rcases RW hr hvs (cH hy)with⟨n,ha,hn,hle,hrd⟩ | ⟨u,ha,Tj,hrd⟩
    ·refine wB.pure hi ?_ hrd
     simp only[qD,M,run_underlying hu,Y,hf,asAgg,zN,part,WW ha,if_true,run_sizeOf hn]
     congr 2
     grind
    ·refine wB.pure hi ?_ hrd
     have:vs[fd.offset]? = some u:=by simpa using Tj
     simp[qD,run_underlying hu,hf,asAgg,part,WW ha,this]
   ·exact absurd h zj
  ·exact absurd h zj
 ·exact absurd h zj
theorem yP{t e:Nat}(h:np c t=some e):c.P.underlying t=some (.slice e):=by
 unfold np at h
 grind
theorem kC{x:Option D}{k:IntKind}{n:Int}{v:Value}(h:asInt x=some (k,n))(N:∀ y,x=some y->RD O y v):v=.int k n:=by
 unfold asInt at h
 split at h
 ·cases h; exact(N _ rfl).dX
 ·cases h
theorem Xc{x:Option D}{s:q9}{v:Value}(h:YU x=some s)(N:∀ y,x=some y->RD O y v):v=.string ⟨s.toArray⟩:=by
 unfold YU at h
 split at h
 ·cases h; exact(N _ rfl).jl
 ·cases h
theorem Z9{x:Option D}{b:Bool}{v:Value}(h:asBool x=some b)(N:∀ y,x=some y->RD O y v):v=.bool b:=by
 unfold asBool at h
 split at h
 ·cases h; exact(N _ rfl).cA
 ·cases h
theorem getD_lt{α:Type}{l:List α}{i:Nat}(h:i<l.length)(d:α):zR l i d=l[i]:=wb
theorem Xf{a:Ty}(x:den a):(jV x:Option (den a))=some x:=by simp[jV]
theorem ES{w:World}{ok:Nat->Prop}:∀ (τ:Ty) (e:Ty) (n:Nat) (x:den τ) (cs:List Value) (i:Nat),ET τ=some (e,n)->Rc w ok τ x cs->i<n ->
  ∃ c,Rc w ok e (Vd e τ x i) c/\∀ j v,c[j]? = some v->cs[i*e.size+j]? = some v
 | .cons a b,e,n,x,cs,i,ht,hr,hi=>by
  obtain⟨c1,c2,rfl,h1,X⟩:=hr.cons_inv
  have key:∀ m,(b=.nil/\m=0\/ET b=some (a,m))->i<m+1->∃ c,Rc w ok a (Vd a (.cons a b) x i) c/\∀ j v,c[j]? = some v->(c1++c2)[i*a.size+j]? = some v:=by
   intro m hm hi
   cases i with
   | zero =>
    refine⟨c1,by simp only[Vd,Xf]; exact h1,λj v hj => ?_⟩
    grind
   | succ i =>
    rcases hm with⟨rfl,rfl⟩ | hm
    ·omega
    ·obtain⟨c,g1,g2⟩:=ES b a m x.2 c2 i hm X (Z)
     refine⟨c,g1,λj v hj => ?_⟩
     have R:=h1.len
     grind
  unfold ET at ht
  split at ht
  ·cases ht; exact key 0 (.inl ⟨rfl,rfl⟩) (Z)
  ·grind
 | .int _,_,_,_,_,_,ht,_,_=>by cases ht
 | .bool,_,_,_,_,_,ht,_,_=>by cases ht
 | .str,_,_,_,_,_,ht,_,_=>by cases ht
 | .sl _,_,_,_,_,_,ht,_,_=>by cases ht
 | .nil,_,_,_,_,_,ht,_,_=>by cases ht
 | .expr,_,_,_,_,_,ht,_,_=>by cases ht
theorem SH{t n e:Nat}(h:zcE c t=some (n,e)):c.P.underlying t=some (.array n e):=by
 unfold zcE at h
 grind
theorem Bb{t:Nat}{x i:Option D}{k:IntKind}{n:Int}{v u:Value}{d:Option D}{qt:St}(hi:Inv O)(N:∀ y,x=some y->RD O y v)(hy:∀ y,i=some y->RD O y u)(K4:asInt i=some (k,n))
  (h:(qx (Gn c t x n) O.st).leads (d,qt)):wB c.P (do zG (.value (<- zO t v u))) O d qt:=by
 have Tj:=kC K4 hy
 subst Tj
 unfold Gn at h
 split at h
 ·rename_i m et τ y ha
  have hu:=SH ha
  split at h
  ·rename_i e m' NY
   cases ht:ct c et e&&zA m m' with
   | false=>rw[ht]at h; exact absurd h zj
   | true =>
    rw[ht,cond_true,yE]at h
    simp only[zM]at ht
    have:=zE ht.2
    subst this
    obtain⟨⟨h0,h1⟩,rfl,rfl⟩:=h
    obtain⟨hs,_⟩:=kh ht.1
    cases N _ rfl with
    | vH _ _ cs blk off ja EA hc =>
     obtain⟨cc,g1,g2⟩:=ES τ e m y cs n.toNat NY EA (Z)
     refine wB.pure hi ?_ (.vH e _ cc blk (off+n.toNat*e.size) ja g1 λj v hj=>wb)
     simp[zO,asIntOf,run_underlying hu,h0,h1,run_sizeOf hs,addr_add,zQ]
  ·exact absurd h zj
 ·exact absurd h zj
theorem Gm{t:Nat}{x i:Option D}{v u:Value}{d:Option D}{qt:St}(hi:Inv O)(N:∀ y,x=some y->RD O y v)(hy:∀ y,i=some y->RD O y u)
  (h:(qx (Xz c t x i) O.st).leads (d,qt)):wB c.P (do zG (.value (<- zO t v u))) O d qt:=by
 unfold Xz at h
 split at h
 ·rename_i k n het K4
  exact Bb hi N hy K4 h
 ·rename_i et k n het K4
  have hu:=yP het
  have Tj:=kC K4 hy
  subst Tj
  split at h
  ·rename_i e l
   cases ht:ct c et e with
   | false=>rw[ht]at h; exact absurd h zj
   | true =>
    rw[ht,cond_true,yE]at h
    obtain⟨⟨h0,h1⟩,rfl,rfl⟩:=h
    obtain⟨hs,_⟩:=kh ht
    have wO:n.toNat<U l:=Z
    rcases((N _ rfl).jN rfl).tZ with⟨rfl,_⟩ | ⟨blk,off,cap,f,he,ja,js,hh,hc⟩
    ·cases wO
    ·cases he
     rw[getD_lt wO]
     refine wB.pure hi ?_ (.vH e _ (f n.toNat) blk (off+n.toNat*e.size) ja (hh _ wO) λj v hj=>hc _ wO j v hj)
     simp[zO,asIntOf,run_underlying hu,h0,h1,run_sizeOf hs,addr_add]
  ·rename_i e l ne
   cases ht:ct c et e with
   | false=>rw[ht]at h; exact absurd h zj
   | true =>
    rw[ht,cond_true,yE]at h
    obtain⟨⟨h0,h1⟩,rfl,rfl⟩:=h
    obtain⟨hs,_⟩:=kh ht
    have wO:n.toNat<U l:=Z
    cases N _ rfl with
    | vF=>cases wO
    | tight _ _ _ blk off f ki ja hh hc =>
     rw[getD_lt wO]
     refine wB.pure hi ?_ (.vH e _ (f n.toNat) blk (off+n.toNat*e.size) ja (hh _ wO) λj v hj=>hc _ wO j v hj)
     simp[zO,asIntOf,run_underlying hu,h0,h1,run_sizeOf hs,addr_add]
  ·rename_i b vp e off len
   cases ht:ct c et e with
   | false=>rw[ht]at h; exact absurd h zj
   | true =>
    rw[ht,cond_true,yE]at h
    obtain⟨⟨h0,h1⟩,rfl,rfl⟩:=h
    obtain⟨hs,_⟩:=kh ht
    cases N _ rfl with
    | ms _ _ _ _ _ cap a hold js ha Va hm =>
     cases a with
     | none=>grind
     | some p =>
      have hp:=Va p rfl
      obtain⟨blk,o,sp⟩:=p
      subst hp
      refine wB.pure hi (v:=.pointer (some ⟨blk,o+n.toNat*e.size,none⟩)) ?_ (.gP b vp e (off+n.toNat) 0 blk _ hold λxs I wO => ?_)
      ·simp[zO,asIntOf,run_underlying hu,h0,h1,run_sizeOf hs,addr_add]
      ·obtain⟨hle,⟨_,_,hv,_⟩ | ⟨pS,n',o',Uv,h3,h4,h5,h6,h7⟩⟩:=hm xs I
       ·cases hv
       ·grind
  ·exact absurd h zj
 ·exact absurd h zj
theorem SK(s:q9){i:Nat}(h:i<s.length):(⟨s.toArray⟩:ByteArray)[i]? = some s[i]:=by
 have bR:(⟨s.toArray⟩:ByteArray).size=s.length:=rfl
 rw[getElem?_pos _ _ (wb)]
 rfl
theorem Mg{t:Nat}{x i:Option D}{v u:Value}{d:Option D}{qt:St}(hi:Inv O)(N:∀ y,x=some y->RD O y v)(hy:∀ y,i=some y->RD O y u)
  (h:(qx (DB c t x i) O.st).leads (d,qt)):wB c.P (do zG (.value (<- Instr.index t v u))) O d qt:=by
 unfold DB at h
 split at h
 ·rename_i k n s K4 hs hu
  have Tj:=kC K4 hy
  subst Tj
  have hv:=Xc hs N
  subst hv
  obtain⟨⟨h0,h1⟩,rfl,rfl⟩:=h
  have wO:n.toNat<s.length:=Z
  rw[getD_lt wO]
  exact wB.pure hi (by simp[Instr.index,asIntOf,run_underlying hu,h0,SK s wO]) RD.int
 ·exact absurd h zj
def Kq(O:KS):Option (Option D)->Option Value->Prop
 | none,none=>True
 | some x,some v=>∀ y,x=some y->RD O y v
 | _,_=>False
theorem G0{d n:Int}{x:Option (Option D)}{v:Option Value}(h:SI d x=some n)(N:Kq O x v):(x=none/\v=none/\n=d)\/(x.isSome/\∃ k,v=some (.int k n)):=by
 cases x with
 | none=>cases v with
  | none=>exact .inl ⟨rfl,rfl,by simpa[SI]using h.symm⟩
  | some v=>exact N.elim
 | some x=>cases v with
  | none=>exact N.elim
  | some v =>
   simp only[SI]at h
   split at h
   ·rename_i k i hk; cases h; exact .inr ⟨rfl,k,by rw[kC hk N]⟩
   ·cases h
end
end Go.AM
namespace Go.AM
set_option linter.unusedSectionVars false
variable [gp]
section
variable {c:Ctx} {O:KS}
theorem dK{P:Program}{isS:Bool}{len cap:Nat}{lo hi mx:Option Value}{l h:Int}{m:Nat}
  (R:(lo=none/\l=0)\/∃ k,lo=some (.int k l)) (hh:(hi=none/\mx=none/\h=len)\/∃ k,hi=some (.int k h))
  (hm:(mx=none/\m=cap)\/∃ k,mx=some (.int k m)) (h0:0<=l) (h1:l<=h) (X:h<=m) (h3:m<=cap) (w:World) :
  (zU isS len cap lo hi mx).run P w=.ok (l.toNat,h.toNat,m) w:=by
 have hh0:(0:Int)<=h:=Z
 have HO:l<=(h.toNat:Int):=Z
 rcases R with⟨rfl,rfl⟩ | ⟨k1,rfl⟩<;>rcases hm with⟨rfl,rfl⟩ | ⟨k3,rfl⟩<;>rcases hh with⟨rfl,N,rfl⟩ | ⟨k2,rfl⟩ <;>
  first
   | (cases N; done)
   | (simp[zU,run_sliceBound, *]; done)
   | (simp[zU,run_sliceBound, *]; rw[run_sliceBound _ _ _ _ _ h0 HO]; rfl)
theorem IJ(s:q9)(l h:Int):(⟨s.toArray⟩:ByteArray).extract l.toNat h.toNat=⟨(fW l h s).toArray⟩:=by
 apply ByteArray.ext
 simp[fW,List.drop_take]
theorem YZ{n:Int}{x:Option (Option D)}{v:Option Value}(h:SI 0 x=some n)(N:Kq O x v):(v=none/\n=0)\/∃ k,v=some (.int k n):=by
 rcases G0 h N with⟨_,h1,X⟩ | ⟨_,h1⟩
 ·grind
 ·grind
theorem CY{d n:Int}{x:Option (Option D)}{v:Option Value}(h:SI d x=some n)(N:Kq O x v):(v=none/\n=d)\/∃ k,v=some (.int k n):=by
 rcases G0 h N with⟨_,h1,X⟩ | ⟨_,h1⟩
 ·grind
 ·grind
theorem Jh{v:Option Value}(h:Kq O none v):v=none:=by cases v with | none=>rfl | some _=>exact h.elim
theorem Ws{e:Ty}{l:List (den e)}{lo hi:Int}(h0:0<=lo)(h1:lo<=hi)(X:hi<=(l.length:Int)) :
  (uI lo hi l).length=hi.toNat-lo.toNat/\∀ i (Yu:i<(uI lo hi l).length),∃ h:lo.toNat+i<l.length,(uI lo hi l)[i]=l[lo.toNat+i]:=by
 have hlen:(uI lo hi l).length=hi.toNat-lo.toNat:=by simp[uI]; omega
 refine⟨hlen,λi Yu=>⟨Z,?_⟩⟩
 simp[uI]
theorem MV{e:Ty}{l:List (den e)}{lo hi:Int}{blk off cap m:Nat}{f:Nat->List Value}(ja:O.ok blk)
  (hh:∀ i (hi:i<l.length),Rc O.w O.ok e l[i] (f i)) (hc:∀ i,i<l.length->∀ j v,(f i)[j]? = some v->O.w.cell? ⟨blk,off+i*e.size+j,none⟩=some v)
  (h0:0<=lo) (h1:lo<=hi) (X:hi<=(l.length:Int)) (hm:hi<=(m:Int)) (js:m<=cap) :
  (∀ i (Yu:i<(uI lo hi l).length),Rc O.w O.ok e (uI lo hi l)[i] (f (lo.toNat+i))) /\
  (∀ i,i<(uI lo hi l).length->∀ j v,(f (lo.toNat+i))[j]? = some v ->
   O.w.cell? ⟨blk,(if m=lo.toNat then off else off+lo.toNat*e.size)+i*e.size+j,none⟩=some v)/\(uI lo hi l).length<=m-lo.toNat:=by
 obtain⟨R,hg⟩:=Ws h0 h1 X
 refine⟨λi Yu => ?_,λi Yu j v hj => ?_,Z⟩
 ·obtain⟨h3,h4⟩:=hg i Yu
  rw[h4]; exact hh _ h3
 ·obtain⟨h3,h4⟩:=hg i Yu
  have:=hc _ h3 j v hj
  rw[if_neg (Z)]
  rw[Nat.add_mul,<- Nat.add_assoc]at this
  exact this
theorem MW{t:Nat}{x:Option D}{lo hi mx:Option (Option D)}{v:Value}{vl vh vm:Option Value}{d:Option D}{qt:St}(hI:Inv O)(N:∀ y,x=some y->RD O y v)
  (hlo:Kq O lo vl) (hhi:Kq O hi vh) (hmx:Kq O mx vm)
  (h:(qx (Ea c t x lo hi mx) O.st).leads (d,qt)):wB c.P (do zG (.value (<- zH t v vl vh vm))) O d qt:=by
 unfold Ea at h
 split at h
 ·rename_i s
  obtain⟨s,rfl⟩:∃ s':q9,s=s':=⟨s,rfl⟩
  split at h
  ·rename_i l hh hu R hh'
   rw[yE]at h
   obtain⟨⟨h0,h1,X⟩,rfl,rfl⟩:=h
   have hv:=(N _ rfl).jl
   subst hv
   have e1:=Jh hmx
   subst e1
   refine wB.pure hI ?_ RD.str
   have bR:(⟨s.toArray⟩:ByteArray).size=s.length:=rfl
   have I:=dK (P:=c.P) (isS:=false) (len:=s.length) (cap:=s.length) (mx:=none) (m:=s.length) (YZ R hlo)
    (s7 (CY hh' hhi) (λh=>⟨h.1,rfl,h.2⟩) id) (.inl ⟨rfl,rfl⟩) h0 h1 X (zF _) O.w
   simp only[zH,M,run_underlying hu,Y,zL,Option.isSome_none,Bool.false_eq_true,if_false,bR,I,IJ]
   rfl
  ·exact absurd h zj
 ·rename_i e s
  split at h
  ·rename_i et l hh het R hh'
   have hu:=yP het
   cases ht:ct c et e with
   | false=>rw[ht]at h; exact absurd h zj
   | true =>
    obtain⟨hs,_⟩:=kh ht
    rw[ht,cond_true]at h
    split at h
    ·rw[yE]at h
     obtain⟨⟨h0,h1,X⟩,rfl,rfl⟩:=h
     have e1:=Jh hmx
     subst e1
     have B6:=YZ R hlo
     have B4:(vh=none/\(none:Option Value)=none/\hh=(s.length:Int))\/∃ k,vh=some (.int k hh):=s7 (CY hh' hhi) (λh=>⟨h.1,rfl,h.2⟩) id
     rcases((N _ rfl).jN rfl).tZ with⟨rfl,a0,he⟩ | ⟨blk,off,cap,f,he,ja,js,T9,hc2⟩
     ·cases he
      simp only[zY,zT]at X
      have I:=dK (P:=c.P) (isS:=true) (len:=0) (cap:=0) (mx:=none) (m:=0) B6 B4 (.inl ⟨rfl,rfl⟩) h0 h1 X (zF _) O.w
      have e0:l=0:=Z
      have e2:hh=0:=Z
      subst e0 e2
      refine wB.pure hI (v:=.slice a0 0 0) ?_ (.Zn rfl (.lK e a0))
      simp[zH,run_underlying hu,zL,I,run_sizeOf hs]
     ·cases he
      obtain⟨k1,k2,k3⟩:=MV (lo:=l) (hi:=hh) (cap:=cap) (m:=cap) ja T9 hc2 h0 h1 X (Z) (zF _)
      have I:=dK (P:=c.P) (isS:=true) (len:=s.length) (cap:=cap) (mx:=none) (m:=cap) B6 B4 (.inl ⟨rfl,rfl⟩) h0 h1 (Z) (zF _) O.w
      have hlen:=(Ws h0 h1 X).1
      refine wB.pure hI ?_ (.Zn rfl (.sl e (uI l hh s) blk _ (cap-l.toNat) _ ja k3 k1 k2))
      simp only[zH,M,run_underlying hu,Y,zL,I,run_sizeOf hs,zN,hlen]
      congr 3
      split<;>simp[addr_add]
    ·split at h
     ·rename_i mx m km mi hm'
      cases hhs:hi.isSome with
      | false=>rw[hhs]at h; exact absurd h zj
      | true =>
      rw[hhs,cond_true,yE]at h
      obtain⟨⟨h0,h1,rfl,X⟩,rfl,rfl⟩:=h
      obtain⟨vm,rfl⟩:∃ u,vm=some u:=by cases vm with | none=>exact hmx.elim | some u=>exact⟨u,rfl⟩
      have hvm:=kC hm' hmx
      subst hvm
      have B6:=YZ R hlo
      have B4:(vh=none/\(some (Value.int km hh):Option Value)=none/\hh=(s.length:Int))\/∃ k,vh=some (.int k hh):=by
       rcases G0 hh' hhi with⟨g1,_⟩ | ⟨_,g⟩
       ·rw[g1]at hhs; cases hhs
       ·exact .inr g
      have em:((hh.toNat:Nat):Int)=hh:=Z
      rcases((N _ rfl).jN rfl).tZ with⟨rfl,a0,he⟩ | ⟨blk,off,cap,f,he,ja,js,T9,hc2⟩
      ·cases he
       simp only[zY,zT]at X
       have I:=dK (P:=c.P) (isS:=true) (len:=0) (cap:=0) (mx:=some (.int km hh)) (m:=hh.toNat) B6 B4 (.inr ⟨km,by rw[em]⟩) h0 h1 (Z) (Z) O.w
       have e0:l=0:=Z
       have e2:hh=0:=Z
       subst e0 e2
       refine wB.pure hI (v:=.slice a0 0 0) ?_ (.vF e a0)
       simp[zH,run_underlying hu,zL,I,run_sizeOf hs]
      ·cases he
       obtain⟨k1,k2,k3⟩:=MV (lo:=l) (hi:=hh) (cap:=cap) (m:=hh.toNat) ja T9 hc2 h0 h1 X (Z) (Z)
       have I:=dK (P:=c.P) (isS:=true) (len:=s.length) (cap:=cap) (mx:=some (.int km hh)) (m:=hh.toNat) B6 B4 (.inr ⟨km,by rw[em]⟩) h0 h1 (Z) (Z) O.w
       have hlen:=(Ws h0 h1 X).1
       refine wB.pure hI ?_ (.tight e (uI l hh s) false blk _ _ nofun ja k1 k2)
       simp only[zH,M,run_underlying hu,Y,zL,I,run_sizeOf hs,zN,hlen]
       congr 3
       split<;>simp[addr_add]
     ·exact absurd h zj
  ·exact absurd h zj
 ·rename_i e s ne
  split at h
  ·rename_i et l hh het R hh'
   have hu:=yP het
   cases ht:ct c et e with
   | false=>rw[ht]at h; exact absurd h zj
   | true =>
    obtain⟨hs,_⟩:=kh ht
    rw[ht,cond_true,yE]at h
    obtain⟨⟨h0,h1,X⟩,rfl,rfl⟩:=h
    have e1:=Jh hmx
    subst e1
    have B6:=YZ R hlo
    have B4:(vh=none/\(none:Option Value)=none/\hh=(s.length:Int))\/∃ k,vh=some (.int k hh):=s7 (CY hh' hhi) (λh=>⟨h.1,rfl,h.2⟩) id
    cases N _ rfl with
    | vF _ a0 =>
     simp only[zY,zT]at X
     have I:=dK (P:=c.P) (isS:=true) (len:=0) (cap:=0) (mx:=none) (m:=0) B6 B4 (.inl ⟨rfl,rfl⟩) h0 h1 X (zF _) O.w
     have e0:l=0:=Z
     have e2:hh=0:=Z
     subst e0 e2
     refine wB.pure hI (v:=.slice a0 0 0) ?_ (.Zn rfl (.lK e a0))
     simp[zH,run_underlying hu,zL,I,run_sizeOf hs]
    | tight _ _ _ blk off f ki ja T9 hc2 =>
     obtain⟨k1,k2,k3⟩:=MV (lo:=l) (hi:=hh) (cap:=s.length) (m:=s.length) ja T9 hc2 h0 h1 X (Z) (zF _)
     have I:=dK (P:=c.P) (isS:=true) (len:=s.length) (cap:=s.length) (mx:=none) (m:=s.length) B6 B4 (.inl ⟨rfl,rfl⟩) h0 h1 (Z) (zF _) O.w
     have hlen:=(Ws h0 h1 X).1
     refine wB.pure hI ?_ (.Zn rfl (.sl e (uI l hh s) blk _ (s.length-l.toNat) _ ja k3 k1 k2))
     simp only[zH,M,run_underlying hu,Y,zL,I,run_sizeOf hs,zN,hlen]
     congr 3
     split<;>simp[addr_add]
  ·exact absurd h zj
 ·rename_i b vp e off len
  split at h
  ·rename_i et l hh het R hh'
   have hu:=yP het
   cases ht:ct c et e with
   | false=>rw[ht]at h; exact absurd h zj
   | true =>
    obtain⟨hs,_⟩:=kh ht
    rw[ht,cond_true,yE]at h
    obtain⟨⟨h0,h1,X⟩,rfl,rfl⟩:=h
    have e1:=Jh hmx
    subst e1
    have B6:=YZ R hlo
    have B4:(vh=none/\(none:Option Value)=none/\hh=(len:Int))\/∃ k,vh=some (.int k hh):=s7 (CY hh' hhi) (λh=>⟨h.1,rfl,h.2⟩) id
    cases N _ rfl with
    | ms _ _ _ _ _ cap a hold js ha Va hm =>
     have I:=dK (P:=c.P) (isS:=true) (len:=len) (cap:=cap) (mx:=none) (m:=cap) B6 B4 (.inl ⟨rfl,rfl⟩) h0 h1 (Z) (zF _) O.w
     refine wB.pure hI (v:=.slice (if cap=l.toNat then a else a.map (·.add (l.toNat*e.size))) (hh.toNat-l.toNat) (cap-l.toNat)) ?_ (.ms b vp e _ _ _ _ hold (Z) ?_ ?_ ?_)
     ·simp only[zH,M,run_underlying hu,Y,zL,I,run_sizeOf hs,zN]
     ·intro hn
      split at hn
      ·have:=ha hn; omega
      ·cases a with | none=>have:=ha rfl; omega | some p=>cases hn
     ·intro p hp
      split at hp
      ·exact Va p hp
      ·cases a with
       | none=>cases hp
       | some q =>
        obtain⟨q1,q2,q3⟩:=q
        have:=Va _ rfl
        simp only at this
        subst this
        simp only[Option.map_some,addr_add,Option.some.injEq]at hp
        subst hp; rfl
     ·intro xs Yx
      obtain⟨hle,⟨rfl,rfl,hv,hp⟩ | ⟨pS,n',o',Uv,h3,h4,h5,h6,h7⟩⟩:=hm xs Yx
      ·cases hv
       have e0:l=0:=Z
       have e2:hh=0:=Z
       subst e0 e2
       exact⟨qp,.inl ⟨rfl,rfl,rfl,hp⟩⟩
      ·cases h4
       refine⟨Z,.inr ?_⟩
       by_cases KC:cap=l.toNat
       ·refine⟨pS,n',o',0,h3,?_,Z,?_,.inl rfl⟩
        ·simp[KC]
        ·have:(off+l.toNat+0)=off+cap:=Z
         rw[this]; exact h6
       ·refine⟨pS,n',o'+l.toNat*e.size,cap-l.toNat,h3,?_,Z,?_,.inr ?_⟩
        ·simp[KC,addr_add]
        ·have:off+l.toNat+(cap-l.toNat)=off+cap:=Z
         rw[this]; exact h6
        ·rcases h7 with h7 | h7
         ·omega
         ·rw[h7,Nat.add_mul]
  ·exact absurd h zj
 ·exact absurd h zj
end
end Go.AM
namespace Go.AM
set_option linter.unusedSectionVars false
variable [gp]
section
variable {c:Ctx} {O:KS}
theorem Xt(op:BinOp)(t:Nat)(x y:Operand)(k k':IntKind)(a b:Int)(P:Program)(w:World):(eqGuard op t x y (.int k a) (.int k' b)).run P w=.ok () w:=by
 unfold eqGuard; split<;>simp
theorem Fl(op:BinOp)(t:Nat)(x y:Operand)(a b:ByteArray)(P:Program)(w:World):(eqGuard op t x y (.string a) (.string b)).run P w=.ok () w:=by
 unfold eqGuard; split<;>simp
theorem De(op:BinOp)(t:Nat)(x y:Operand)(a b:Bool)(P:Program)(w:World):(eqGuard op t x y (.bool a) (.bool b)).run P w=.ok () w:=by
 unfold eqGuard; split<;>simp
theorem Zo{k:IntKind}{n:Int}{st qt:St}{d:Option D}:(qx (ib k n) st).leads (d,qt)↔d=some (.qs (.int k) n)/\qt=st:=dF
theorem XH{b:Bool}{st qt:St}{d:Option D}:(qx (bb b) st).leads (d,qt)↔d=some (.qs .bool b)/\qt=st:=dF
theorem Lu{op:BinOp}{k:IntKind}{a b:Int}{d:Option D}{st qt:St}{t:Nat}(h:(qx (Lt op k a b) st).leads (d,qt))(hs:Yy op=false) :
  ∃ y v,d=some y/\qt=st/\(binOp op t (.int k a) (.int k b)).run c.P O.w=.ok v O.w/\RD O y v:=by
 cases op<;>simp only[Lt]at h<;>try (exact absurd h zj)
 all_goals first
  | (rw[Zo]at h; obtain⟨rfl,rfl⟩:=h; exact⟨_,_,rfl,rfl,by simp[binOp,Op.intArith,Op.intBits,Xd],RD.int⟩)
  | (rw[XH]at h; obtain⟨rfl,rfl⟩:=h; exact⟨_,_,rfl,rfl,by simp[binOp,Op.intCmp],RD.bool⟩)
  | (rw[yE]at h; obtain⟨I,rfl,rfl⟩:=h; exact⟨_,_,rfl,rfl,by simp[binOp,Op.intDiv,I],RD.int⟩)
theorem Hr(s:q9):(⟨s.toArray⟩:ByteArray).toList=s:=qp
theorem Lx{op:BinOp}{a b:q9}{d:Option D}{st qt:St}{t:Nat}(h:(qx (Lw op a b) st).leads (d,qt))(hs:Yy op=false) :
  ∃ y v,d=some y/\qt=st/\(binOp op t (.string ⟨a.toArray⟩) (.string ⟨b.toArray⟩)).run c.P O.w=.ok v O.w/\RD O y v:=by
 have bR:∀ s:q9,(⟨s.toArray⟩:ByteArray).size=s.length:=λ_=>rfl
 cases op<;>simp only[Lw]at h<;>try (exact absurd h zj)
 case add =>
  rw[yE]at h; obtain⟨I,rfl,rfl⟩:=h
  refine⟨_,_,rfl,rfl,?_,RD.str⟩
  have e:(⟨a.toArray⟩++⟨b.toArray⟩:ByteArray)=⟨(cat a b).toArray⟩:=by
   rfl
  have hn:¬ (IntKind.i64.max<((a.length+b.length:Nat):Int)):=by
   have:IntKind.i64.max=9223372036854775807:=xo
   omega
  simp only[binOp,Op.stringOp,bR,hn]
  rfl
 all_goals (rw[XH]at h; obtain⟨rfl,rfl⟩:=h; exact⟨_,_,rfl,rfl,by simp[binOp,Op.stringOp,wP,strLt],RD.bool⟩)
theorem LQ{P:Program}{t:Nat}(hu:P.underlying t=some .bool)(a b:Bool)(w:World):(Op.equal t (.bool a) (.bool b)).run P w=.ok (a==b) w:=by
 show(qC (9999+1) t _ _).run P w=_
 rw[qC]
 simp[run_underlying hu]
theorem MU{a:Ty}{t:Nat}(h:zaz c a t=true):(∃ k,a=.int k/\c.P.underlying t=some (.int k))\/(a=.bool/\c.P.underlying t=some .bool)\/(a=.str/\c.P.underlying t=some .string):=by
 unfold zaz at h
 grind
theorem Mz{P:Program}{t:Nat}{u:TypeDesc}(h:P.underlying t=some u)(hn:(match u with | .struct _ | .array _ _=>true | _=>false)=false)(w:World):(isAgg t).run P w=.ok false w:=by
 simp only[isAgg,M,run_underlying h]
 cases u<;>first | rfl | cases hn
theorem my{P:Program}{t:Nat}{u:TypeDesc}(h:P.underlying t=some u)(hn:(match u with | .struct _ | .array _ _=>true | _=>false)=false)(pre:List Value)(v:Value)(cs:List Value)(w:World) :
  (part t (pre++v::cs).toArray pre.length).run P w=.ok v w:=by
 simp only[part,M,Mz h hn]
 simp
theorem UJ{w:World}{ok:Nat->Prop}(dp:Nat):∀ (τ:Ty) (a b:den τ) (off:Nat) (fs:List Field) (pre Hd cs mI:List Value),UM c τ off fs=true->Rc w ok τ a cs->Rc w ok τ b mI->pre.length=off->Hd.length=off ->
  (zZ (dp+1) (pre++cs).toArray (Hd++mI).toArray fs).run c.P w=.ok (eqT τ a b) w
 | .nil,_,_,_,fs,pre,Hd,cs,mI,h,_,_,_,_=>by
  cases fs with
  | nil=>rfl
  | cons f fs=>cases h
 | .cons a r,x,y,off,fs,pre,Hd,cs,mI,h,N,hy,hp,hp'=>by
  cases fs with
  | nil=>cases h
  | cons f fs =>
   have h:(decide (f.name ≠ "_")&&(zA f.offset off&&(zaz c a f.type&&UM c r (off+1) fs)))=true:=h
   simp only[zM,decide_eq_true_eq]at h
   obtain⟨h1,X,h3,h4⟩:=h
   have X:=zE X
   obtain⟨c1,c2,rfl,g1,g2⟩:=N.cons_inv
   obtain⟨e1,e2,rfl,k1,k2⟩:=hy.cons_inv
   have ih:=λv v'=>UJ dp r x.2 y.2 (off+1) fs (pre++[v]) (Hd++[v']) c2 e2 h4 g2 k2 (by simp[hp]) (by simp[hp'])
   have fin:∀ (v v':Value) (q:Bool),c1=[v]->e1=[v']->(part f.type (pre++v::c2).toArray f.offset).run c.P w=.ok v w->(part f.type (Hd++v'::e2).toArray f.offset).run c.P w=.ok v' w->(qC (dp+1) f.type v v').run c.P w=.ok q w->eqT a x.1 y.1=q ->
     (zZ (dp+1) (pre++(c1++c2)).toArray (Hd++(e1++e2)).toArray (f::fs)).run c.P w=.ok (eqT (.cons a r) x y) w:=by
    rintro v v' q rfl rfl p1 p2 p3 p4
    show(zZ (dp+1) (pre++v::c2).toArray (Hd++v'::e2).toArray (f::fs)).run c.P w=.ok (eqT a x.1 y.1&&eqT r x.2 y.2) w
    rw[zZ,if_pos h1]
    simp only[M,p1,p2,p3,Y]
    rw[p4]
    cases q with
    | false=>rfl
    | true =>
     grind
   subst hp
   rcases MU h3 with⟨k,rfl,hu⟩ | ⟨rfl,hu⟩ | ⟨rfl,hu⟩
   ·exact fin _ _ _ g1.dX k1.dX (by rw[X]; exact my hu rfl pre _ c2 w) (by rw[X,<- hp']; exact my hu rfl Hd _ e2 w) (run_equalIn_int w dp _ k k _ _ hu) rfl
   ·exact fin _ _ _ g1.cA k1.cA (by rw[X]; exact my hu rfl pre _ c2 w) (by rw[X,<- hp']; exact my hu rfl Hd _ e2 w) (run_equalIn_bool' w dp _ _ _ hu) rfl
   ·refine fin _ _ _ g1.jl k1.jl (by rw[X]; exact my hu rfl pre _ c2 w) (by rw[X,<- hp']; exact my hu rfl Hd _ e2 w) (run_equalIn_string w dp _ _ _ hu) ?_
    rw[Hr,Hr]
    rfl
 | .int _,_,_,_,_,_,_,_,_,h,_,_,_,_=>by simp[UM]at h
 | .bool,_,_,_,_,_,_,_,_,h,_,_,_,_=>by simp[UM]at h
 | .str,_,_,_,_,_,_,_,_,h,_,_,_,_=>by simp[UM]at h
 | .sl _,_,_,_,_,_,_,_,_,h,_,_,_,_=>by simp[UM]at h
 | .expr,_,_,_,_,_,_,_,_,h,_,_,_,_=>by simp[UM]at h
theorem LP{op:BinOp}{t:Nat}{px py:Operand}{x y:Option D}{v u:Value}{d:Option D}{qt:St}(hI:Inv O)(N:∀ z,x=some z->RD O z v)(hy:∀ z,y=some z->RD O z u)
  (h:(qx (z1b c op t x y) O.st).leads (d,qt)):wB c.P (do zG (.value (<- (do eqGuard op t px py v u; binOp op t v u)))) O d qt:=by
 unfold z1b at h
 split at h
 ·rename_i τ a σ b
  split at h
  ·rename_i b' I
   unfold jV at I
   split at I
   ·rename_i e
    subst e
    injection I with I
    subst I
    cases hg:σ.isAgg&&Hs c σ t with
    | false=>rw[hg]at h; exact absurd h zj
    | true =>
     rw[hg,cond_true]at h
     rw[zM]at hg
     obtain⟨hag,hso⟩:=hg
     unfold Hs at hso
     split at hso
     ·rename_i fs hu
      simp at hso
      obtain⟨f1,f2,f3⟩:=hso
      have hfo:c.P.fieldsOf t=fs:=by unfold Program.fieldsOf; rw[hu]
      cases N _ rfl with
      | qs _ _ cs g1 =>
      cases hy _ rfl with
      | qs _ _ mI g2 =>
       have e1:pk σ cs=.agg cs.toArray:=by unfold pk; rw[if_pos hag]
       have e2:pk σ mI=.agg mI.toArray:=by unfold pk; rw[if_pos hag]
       have hr:=UJ (c:=c) 9998 σ a b 0 fs.toList [] [] cs mI f1 g1 g2 rfl rfl
       have hq:(qC 10000 t (.agg cs.toArray) (.agg mI.toArray)).run c.P O.w=.ok (eqT σ a b) O.w:=by
        rw[show(10000:Nat)=9999+1 from rfl,run_equalIn_agg O.w 9999 t _ _ (wb) f2,hfo]
        exact hr
       rw[e1,e2]
       cases op<;>try (exact absurd h zj)
       ·rw[XH]at h; obtain⟨rfl,rfl⟩:=h
        refine wB.pure hI ?_ RD.bool
        simp only[M,run_eqGuard_agg O.w _ t px py _ _ f3,Y,run_eql_struct,hq]
       ·rw[XH]at h; obtain⟨rfl,rfl⟩:=h
        refine wB.pure hI ?_ RD.bool
        simp only[M,run_eqGuard_agg O.w _ t px py _ _ f3,Y,run_neq_struct,hq]
     ·cases hso
   ·cases I
  ·exact absurd h zj
 ·exact absurd h zj
theorem YX{op:BinOp}{t:Nat}{px py:Operand}{x y:Option D}{v u:Value}{d:Option D}{qt:St}(hI:Inv O)(N:∀ z,x=some z->RD O z v)(hy:∀ z,y=some z->RD O z u)
  (h:(qx (YW c op t x y) O.st).leads (d,qt)):wB c.P (do zG (.value (<- (do eqGuard op t px py v u; binOp op t v u)))) O d qt:=by
 unfold YW at h
 split at h
 ·rename_i k a k' b hk Yv
  have:=kC hk N
  subst this
  have:=kC Yv hy
  subst this
  split at h
  ·rw[yE]at h
   obtain⟨I,rfl,rfl⟩:=h
   refine wB.pure hI ?_ RD.int
   simp only[M,Xt,Y,binOp,Op.shift,if_neg (show ¬ b<0 by omega)]
   rfl
  ·rw[yE]at h
   obtain⟨I,rfl,rfl⟩:=h
   refine wB.pure hI ?_ RD.int
   simp only[M,Xt,Y,binOp,Op.shift,if_neg (show ¬ b<0 by omega)]
   rfl
  ·rename_i n1 n2
   cases he:decide (k=k')with
   | false=>rw[he]at h; exact absurd h zj
   | true =>
    have M6:=uf he
    subst M6
    rw[he,cond_true]at h
    obtain⟨y',v',rfl,rfl,h1,X⟩:=Lu (c:=c) (O:=O) (t:=t) h (by cases op<;>first | rfl | (exact absurd rfl n1) | (exact absurd rfl n2))
    exact wB.pure hI (by simp only[M,Xt,Y,h1]) X
 ·split at h
  ·rename_i a b ha I
   have:=Xc ha N
   subst this
   have:=Xc I hy
   subst this
   cases hs:Yy op with
   | true=>rw[hs]at h; exact absurd h zj
   | false =>
    rw[hs,cond_false]at h
    obtain⟨y',v',rfl,rfl,h1,X⟩:=Lx (c:=c) (O:=O) (t:=t) h hs
    exact wB.pure hI (by simp only[M,Fl,Y,h1]) X
  ·split at h
   ·rename_i a b hu ha I
    have:=Z9 ha N
    subst this
    have:=Z9 I hy
    subst this
    cases op<;>simp only[z1c]at h<;>try (exact absurd h zj)
    all_goals
     rw[XH]at h; obtain⟨rfl,rfl⟩:=h
     refine wB.pure hI ?_ RD.bool
     simp only[M,De,Y,binOp,LQ hu,zN]
   ·exact LP hI N hy h
theorem zaJ{op:UnOp}{x:Option D}{v:Value}{d:Option D}{qt:St}(hI:Inv O)(N:∀ z,x=some z->RD O z v)
  (h:(qx (z4L op x) O.st).leads (d,qt)):wB c.P (do zG (.value (<- Op.unary op v))) O d qt:=by
 unfold z4L at h
 split at h
 ·split at h
  ·rename_i k n hk
   have:=kC hk N
   subst this
   obtain⟨rfl,rfl⟩:=h
   exact wB.pure hI (by rfl) RD.int
  ·exact absurd h zj
 ·split at h
  ·rename_i b I
   have:=Z9 I N
   subst this
   obtain⟨rfl,rfl⟩:=h
   exact wB.pure hI (by rfl) RD.bool
  ·exact absurd h zj
 ·split at h
  ·rename_i k n hk
   have:=kC hk N
   subst this
   obtain⟨rfl,rfl⟩:=h
   exact wB.pure hI (by rfl) RD.int
  ·exact absurd h zj
 ·exact absurd h zj
theorem z84{t ty:Nat}{ts:Array Nat}{x:Option D}{v:Value}{vs:Array Value}{d:Option D}{qt:St}(hI:Inv O)(N:∀ z,x=some z->RD O z v)(ht:ts[0]? = some t)(hv:vs[0]? = some v)
  (h:(qx (z2v c t x) O.st).leads (d,qt)):wB c.P (do zG (.value (<- zV ts ty vs))) O d qt:=by
 unfold z2v at h
 split at h
 ·rename_i e hu
  have key:∀ (n:Nat) (a:Option Addr) (cap:Nat),v=.slice a n cap->d=some (.qs (.int .i64) (n:Int))->qt=O.st->wB c.P (do zG (.value (<- zV ts ty vs))) O d qt:=by
   rintro n a cap rfl rfl rfl
   exact wB.pure hI (by simp[zV,ht,hv,run_underlying hu,goInt]) RD.int
  split at h
  ·rename_i e' l
   rw[Zo]at h
   rcases((N _ rfl).jN rfl).tZ with⟨rfl,a0,he⟩ | ⟨blk,off,cap,f,he,_⟩
   ·grind
   ·grind
  ·rename_i e' l ne
   rw[Zo]at h
   cases N _ rfl with
   | vF _ a0=>grind
   | tight=>grind
  ·rw[Zo]at h
   cases N _ rfl
   grind
  ·rw[Zo]at h
   cases N _ rfl
   grind
  ·exact absurd h zj
 ·rename_i hu
  split at h
  ·rename_i s hs
   have:=Xc hs N
   subst this
   obtain⟨rfl,rfl⟩:=h
   have bR:(⟨s.toArray⟩:ByteArray).size=s.length:=rfl
   exact wB.pure hI (by simp only[zV,ht,hv,M,run_underlying hu,Y,goInt,bR,zN]) RD.int
  ·exact absurd h zj
 ·exact absurd h zj
theorem Mt{f:Int->Int->Int}{g:Value->Value->Sem Value}{P:Program}(hg:∀ k k' a b,(g (.int k a) (.int k' b)).run P O.w=.ok (.int k (f a b)) O.w){x y:Option D}{v u:Value}{d:Option D}{qt:St}
  (hI:Inv O) (N:∀ z,x=some z->RD O z v) (hy:∀ z,y=some z->RD O z u) (h:(qx (GS f [x,y]) O.st).leads (d,qt)) :
  ∃ r,(g v u).run P O.w=.ok r O.w/\qt=O.st/\∀ d',d=some d'->RD O d' r:=by
 unfold GS at h
 simp only at h
 split at h
 ·rename_i k a k' b hk Yv
  have:=kC hk N
  subst this
  have:=kC Yv hy
  subst this
  cases he:decide (k=k')with
  | false=>rw[he]at h; exact absurd h zj
  | true =>
   rw[he,cond_true,Zo]at h
   obtain⟨rfl,rfl⟩:=h
   exact⟨_,hg k k' a b,rfl,λd' he=>by cases he; exact RD.int⟩
 ·exact absurd h zj
theorem Dg{x:Option D}{i:Nat}{v:Value}{d:Option D}{qt:St}(hI:Inv O)(N:∀ z,x=some z->RD O z v)
  (h:(qx (K1 x i) O.st).leads (d,qt)):wB c.P (do zG (.value (<- Instr.extract v i))) O d qt:=by
 unfold K1 at h
 split at h
 ·rename_i vs
  obtain⟨y,hy,rfl,rfl⟩:=GI h
  cases N _ rfl with
  | eO _ us R hh =>
   obtain⟨u,h1,X⟩:=wQ.get (⟨R,hh⟩:wQ O vs us) hy
   exact wB.pure hI (by simp[Instr.extract,h1]) X
 ·exact absurd h zj
theorem oO:∀ {l:List (Option D)} {ds:List D},gJ l=some ds->l=ds.map some
 | [],ds,h=>by simp[gJ]at h; subst h; rfl
 | some d::r,ds,h=>by
  simp only[gJ]at h
  split at h
  ·rename_i l R; cases h; simp[oO R]
  ·cases h
 | none::r,ds,h=>by simp[gJ]at h
theorem fN{l:List (Option D)}{ds:List D}{vs:List Value}(h:gJ l=some ds)(R:l.length=vs.length)
  (hr:∀ (i:Nat) (d:D) (v:Value),l[i]? = some (some d)->vs[i]? = some v->RD O d v):wQ O ds vs:=by
 have:=oO h
 subst this
 refine⟨wb,λi h1 X=>hr i _ _ ?_ (zP X)⟩
 simp
end
end Go.AM
namespace Go.AM
namespace T
variable {α β γ:Type}
theorem mm{t:T α}{x y:α}(h:t.leads x)(k:t.leads y):x=y:=by
 induction t with
 | ret a=>exact h.symm.trans k
 | ite b p q ip iq =>
  rcases h with⟨h1,h⟩ | ⟨h1,h⟩<;>rcases k with⟨k1,k⟩ | ⟨k1,k⟩
  ·grind
  ·grind
  ·grind
  ·grind
 | W p t ih=>exact ih h.2 k.2
 | fail=>exact h.elim
theorem zi{t:T α}{f:α->T β}{x:β}:(t.bind f).leads x↔∃ a,t.leads a/\(f a).leads x:=by
 induction t with
 | ret a=>exact⟨λh=>⟨a,rfl,h⟩,λ⟨b,h,k⟩=>by cases h; exact k⟩
 | ite b p q ip iq =>
  constructor
  ·rintro(⟨h1,h⟩ | ⟨h1,h⟩)
   ·obtain⟨a,k1,k2⟩:=ip.1 h; exact⟨a,.inl ⟨h1,k1⟩,k2⟩
   ·obtain⟨a,k1,k2⟩:=iq.1 h; exact⟨a,.inr ⟨h1,k1⟩,k2⟩
  ·rintro⟨a,⟨h1,k1⟩ | ⟨h1,k1⟩,k2⟩
   ·exact .inl ⟨h1,ip.2 ⟨a,k1,k2⟩⟩
   ·exact .inr ⟨h1,iq.2 ⟨a,k1,k2⟩⟩
 | W p t ih =>
  constructor
  ·rintro⟨h1,h⟩; obtain⟨a,k1,k2⟩:=ih.1 h; exact⟨a,⟨h1,k1⟩,k2⟩
  ·rintro⟨a,⟨h1,k1⟩,k2⟩; exact⟨h1,ih.2 ⟨a,k1,k2⟩⟩
 | fail=>exact⟨λh=>h.elim,λ⟨_,h,_⟩=>h.elim⟩
open Classical in
noncomputable def run:T α->Option α
 | ret a=>some a
 | ite b t e=>bif b then t.run else e.run
 | W p t=>if p then t.run else none
 | fail=>none
@[simp] theorem wg(a:α):(ret a).run=some a:=rfl
@[simp] theorem zn1:(fail:T α).run=none:=rfl
theorem run_ite(b:Bool)(t e:T α):(ite b t e).run=if b=true then t.run else e.run:=by cases b<;>rfl
@[simp] theorem Jz(t e:T α):(ite true t e).run=t.run:=rfl
@[simp] theorem Vs(t e:T α):(ite false t e).run=e.run:=rfl
theorem xj{p:Prop}(h:p)(t:T α):(W p t).run=t.run:=by simp only[run,if_pos h]
theorem vP{b:Bool}(h:b=true)(t e:T α):(ite b t e).run=t.run:=by rw[h]; rfl
theorem je{b:Bool}(h:b=false)(t e:T α):(ite b t e).run=e.run:=by rw[h]; rfl
theorem yG{t:T α}{x:α}:t.run=some x↔t.leads x:=by
 induction t with
 | ret a=>simp[leads]
 | ite b p q ip iq=>cases b<;>simp[leads,ip,iq]
 | W p t ih=>by_cases h:p<;>simp[run,leads,ih]
 | fail=>simp[leads]
theorem run_bind(t:T α)(f:α->T β):(t.bind f).run=t.run.bind λa=>(f a).run:=by
 induction t with
 | ret a=>rfl
 | ite b p q ip iq=>cases b<;>simp[bind,ip,iq]
 | W p t ih=>by_cases h:p<;>simp[run,bind,h,ih]
 | fail=>rfl
theorem zx{t:T α}{a:α}(h:t.run=some a)(f:α->T β):(t.bind f).run=(f a).run:=by rw[run_bind,h]; rfl
section loop
variable {σ ρ:Type} (r:σ->T (σ⊕ρ))
inductive Iter:Nat->σ->ρ->Prop
 | done {s:σ} {x:ρ} (h:(r s).leads (.inr x)):Iter 0 s x
 | step {n:Nat} {s s':σ} {x:ρ} (h:(r s).leads (.inl s')) (k:Iter n s' x):Iter (n+1) s x
theorem Iter.det{r:σ->T (σ⊕ρ)}{n m:Nat}{s:σ}{x y:ρ}(h:Iter r n s x)(k:Iter r m s y):x=y:=by
 induction h generalizing m y with
 | done h =>
  cases k with
  | done k=>have:=mm h k; cases this; rfl
  | step k _=>have:=mm h k; cases this
 | step h _ ih =>
  cases k with
  | done k=>have:=mm h k; cases this
  | step k k2=>have:=mm h k; cases this; exact ih k2
open Classical in
noncomputable def loop (s:σ):T ρ:=if h:∃ x n,Iter r n s x then .ret h.choose else .fail
theorem fj{s:σ}{x:ρ}:(loop r s).leads x↔∃ n,Iter r n s x:=by
 unfold loop
 split
 ·rename_i h
  obtain⟨n,hn⟩:=h.choose_spec
  constructor
  ·intro N; cases N; exact⟨n,hn⟩
  ·rintro⟨m,hm⟩; exact hn.det hm
 ·rename_i h
  exact⟨λk=>k.elim,λ⟨n,hn⟩=>h ⟨x,n,hn⟩⟩
theorem XI{r:σ->T (σ⊕ρ)}(hb:σ->Prop)(μ:σ->Nat)(f:σ->ρ)
  (h:∀ s,hb s->(∃ s',(r s).run=some (.inl s')/\hb s'/\μ s'<μ s/\f s'=f s)\/(r s).run=some (.inr (f s))) {s:σ} (hs:hb s):(loop r s).run=some (f s):=by
 rw[yG,fj]
 generalize hm:μ s=m
 induction m using Nat.strongRecOn generalizing s with
 | _ m ih =>
  rcases h s hs with⟨s',h1,X,h3,h4⟩ | h1
  ·obtain⟨n,hn⟩:=ih (μ s') (Z) X rfl
   exact⟨n+1,.step (yG.1 h1) (h4▸hn)⟩
  ·exact⟨0,.done (yG.1 h1)⟩
theorem WE{r:σ->T (σ⊕ρ)}{s s':σ}(h:(r s).run=some (.inl s')):(loop r s).run=(loop r s').run:=by
 have h':=yG.1 h
 apply Option.ext
 intro x
 show(loop r s).run=some x↔(loop r s').run=some x
 rw[yG,yG,fj,fj]
 constructor
 ·rintro⟨n,hn⟩
  cases hn with
  | done k=>have:=mm h' k; cases this
  | step k k2=>have:=mm h' k; cases this; exact⟨_,k2⟩
 ·rintro⟨n,hn⟩; exact⟨n+1,.step h' hn⟩
theorem pI{r:σ->T (σ⊕ρ)}{s:σ}{x:ρ}(h:(r s).run=some (.inr x)):(loop r s).run=some x:=by
 rw[yG,fj]; exact⟨0,.done (yG.1 h)⟩
end loop
section fix
variable {σ ρ:Type} (b:(σ->T ρ)->σ->T ρ)
def V8:Nat->σ->T ρ
 | 0,_=>.fail
 | n+1,x=>b (V8 n) x
open Classical in
noncomputable def fix (x:σ):T ρ:=if h:∃ y n,∀ m,n<=m->(V8 b m x).leads y then .ret h.choose else .fail
theorem mj{x:σ}{y:ρ}:(fix b x).leads y↔∃ n,∀ m,n<=m->(V8 b m x).leads y:=by
 unfold fix
 split
 ·rename_i h
  obtain⟨n,hn⟩:=h.choose_spec
  constructor
  ·intro N; cases N; exact⟨n,hn⟩
  ·rintro⟨k,hk⟩; exact mm (hn (max n k) (Z)) (hk (max n k) (Z))
 ·rename_i h
  exact⟨λk=>k.elim,λ⟨n,hn⟩=>h ⟨y,n,hn⟩⟩
end fix
def Jm:T α->Option Prop
 | ret _=>none
 | ite b t e=>match t.Jm,e.Jm with
  | none,none=>none
  | some p,none=>some (b=true->p)
  | none,some q=>some (b=false->q)
  | some p,some q=>some ((b=true->p)/\(b=false->q))
 | W p t=>match t.Jm with
  | none=>some p
  | some q=>some (p/\q)
 | fail=>some False
def val(d:α):T α->α
 | ret a=>a
 | ite b t e=>bif b then t.val d else e.val d
 | W _ t=>t.val d
 | fail=>d
def flat(d:α)(t:T α):T α:=match t.Jm with
 | none=>.ret (t.val d)
 | some p=>.W p (.ret (t.val d))
def Yh(t:T α):Prop:=match t.Jm with | none=>True | some p=>p
theorem He(d:α)(t:T α)(x:α):t.leads x↔t.Yh/\t.val d=x:=by
 induction t with
 | ret a=>simp[leads,Yh,Jm,val]
 | ite b p q ip iq =>
  cases b
  ·simp only[leads,val,iq]
   unfold Yh
   simp only[Jm]
   grind
  ·simp only[leads,val,ip]
   unfold Yh
   simp only[Jm]
   grind
 | W p t ih =>
  simp only[leads,ih,val]
  unfold Yh
  simp only[Jm]
  grind
 | fail=>simp[leads,Yh,Jm]
end T
abbrev qj(x:Int):Int:=zX .i64 x
abbrev xr(x:Int):Int:=zX .u64 x
abbrev jT(x:Int):Int:=zX .u32 x
abbrev wu8(x:Int):Int:=zX .u8 x
def zu(vp off len n:Nat):Prop:=vp=n/\off=0/\len=n
def xf(i:Int)(n:Nat):Prop:=0<=i/\i<(n:Int)
def uM(vp dO idx n:Nat):Prop:=vp=dO/\idx<n
def vV(vp dO off len n m bytes:Nat):Prop:=vp=dO/\off=0/\len=n/\(n+m)*bytes<=140737488355328
def jf(l h:Int)(n:Nat):Prop:=0<=l/\l<=h/\h<=(n:Int)
def zn6(l h m:Int)(n:Nat):Prop:=0<=l/\l<=h/\h=m/\h<=(n:Int)
def E3(l:q9):Nat->q9
 | 0=>[]
 | c+1=>l++E3 l c
def Fe(u:Nat):q9:=if h:u<10 then[UInt8.ofNat (48+u)]else Fe (u / 10)++[UInt8.ofNat (48+u % 10)]
termination_by u
decreasing_by omega
def Gs(n:Int):q9:=if n<0 then 45::Fe n.natAbs else Fe n.toNat
def Gl:q9->q9->Int
 | [],sub=>if sub.isEmpty then 0 else -1
 | b::l,sub=>if sub.isPrefixOf (b::l)then 0 else if Gl l sub == -1 then -1 else Gl l sub+1
def UR:q9->UInt8->Int
 | [],_ => -1
 | b::l,c=>if b==c then 0 else if UR l c == -1 then -1 else UR l c+1
def Fc(s sep:q9):q9×q9×Bool:=if 0<=Gl s sep then(s.take (Gl s sep).toNat,s.drop ((Gl s sep).toNat+sep.length),true)else(s,[],false)
def Eg(s p:q9):q9:=if List.isPrefixOf p s=true then s.drop p.length else s
def lQ(s:q9):den (ng .bool 256):=SG (e:=.bool) (λj=>s.contains (UInt8.ofNat j)) 256 0
def Xj(v v' o l n:Nat):Prop:=v=v'/\o+l<=n
def DJ(a b:Nat):Nat:=min a b
def dH(n m:Int)(bytes:Nat):Prop:=0<=n/\n<=m/\m*bytes<=140737488355328/\m<=140737488355328
def nth{α:Type}(l:List α)(i:Int)(d:α):α:=zR l i.toNat d
def wm{α:Type}(l:List α)(i:Nat)(d:α):α:=zR l i d
def uC(s:q9)(i:Int):Int:=((zR s i.toNat 0).toNat:Int)
def YR(k:IntKind)(x y:Int):Int:=Xd k (· &&& ·) x y
def Um(k:IntKind)(x y:Int):Int:=Xd k (· ||| ·) x y
def Nf(k:IntKind)(x y:Int):Int:=Xd k (· ^^^ ·) x y
def z4E(l:List Int):T (q9×Unit):=.W ((∀ n∈l,(0:Int)<=n/\n<256)/\U l<=140737488355328) (.ret (kD l,()))
end Go.AM
namespace Go.AM
def zam(b:UInt8):List q9->List q9
 | []=>[[b]]
 | x::y=>(b::x)::y
def lF(c:UInt8):q9->List q9
 | []=>[[]]
 | b::r=>if b=c then[]::lF c r else zam b (lF c r)
def sK(c:UInt8):q9->q9->List q9
 | cur,[]=>if cur=[]then[]else[cur]
 | cur,b::r=>if b=c then(if cur=[]then sK c [] r else cur::sK c [] r)else sK c (cur++[b]) r
def rI:q9->q9->Int
 | [],_ => -1
 | b::l,chars=>if chars.contains b then 0 else if rI l chars == -1 then -1 else rI l chars+1
abbrev oI{A hl:Type}(i:Int)(l:List A)(t:T hl):T hl:=.W (xf i l.length) t
abbrev V{A hl:Type}(l:List A)(t:T hl):T hl:=.W (l.length=l.length) t
abbrev oC{A hl:Type}(l:List A)(t:T hl):T hl:=.W (zu l.length 0 l.length l.length) t
abbrev oM{hl:Type}(a b:Nat)(t:T hl):T hl:=.W (zu a 0 a b) (.W (a=b) t)
abbrev oA{A hl:Type}(l:List A)(k:Nat)(t:T hl):T hl:=.W (vV l.length l.length 0 l.length l.length 1 k) t
abbrev oK{hl:Type}(a b:q9)(t:T hl):T hl:=.W (a.length+b.length<=4611686018427387904) t
abbrev oZ{hl:Type}(t:T hl):T hl:=.W (zu 0 0 0 0) (.W ((0:Nat)=0) t)
abbrev oV{A B C D κ' F hl:Type}(a:List A)(b:List B)(c:List C)(d:List D)(e:List κ')(f:List F)(t:T hl):T hl:=oC a (oC b (oC c (oC d (oC e (oC f t)))))
abbrev oW{A B C D κ' F hl:Type}(a:List A)(b:List B)(c:List C)(d:List D)(e:List κ')(f:List F)(t:T hl):T hl:=V a (V b (V c (V d (V e (V f t)))))
abbrev oY{A B C D κ' F hl:Type}(a:List A)(b:List B)(c:List C)(d:List D)(e:List κ')(f:List F)(t:T hl):T hl:=oV a b c d e f (oW a b c d e f t)
end Go.AM
namespace Go.AM
namespace T
variable {α β:Type}
attribute [simp] run_bind
@[simp] theorem ID(b:Bool)(t e:T α):(ite b t e).run=if b=true then t.run else e.run:=run_ite b t e
@[simp] theorem vS{i:Int}{n:Nat}(t:T α)(h1:0<=i)(X:i<(n:Int)):(W (xf i n) t).run=t.run:=xj ⟨h1,X⟩ t
@[simp] theorem fP{v v' i n:Nat}(t:T α)(h1:v=v')(X:i<n):(W (uM v v' i n) t).run=t.run:=xj ⟨h1,X⟩ t
@[simp] theorem znL{v v' o l n m b:Nat}(t:T α)(h1:v=v')(X:o=0)(h3:l=n)(h4:(n+m)*b<=140737488355328):(W (vV v v' o l n m b) t).run=t.run:=xj ⟨h1,X,h3,h4⟩ t
@[simp] theorem bq{v o l n:Nat}(t:T α)(h1:v=n)(X:o=0)(h3:l=n):(W (zu v o l n) t).run=t.run:=xj ⟨h1,X,h3⟩ t
@[simp] theorem W8{l h:Int}{n:Nat}(t:T α)(h1:0<=l)(X:l<=h)(h3:h<=(n:Int)):(W (jf l h n) t).run=t.run:=xj ⟨h1,X,h3⟩ t
@[simp] theorem run_mk{n m:Int}{b:Nat}(t:T α)(h1:0<=n)(X:n<=m)(h3:m*b<=140737488355328)(h4:m<=140737488355328):(W (dH n m b) t).run=t.run:=xj ⟨h1,X,h3,h4⟩ t
@[simp] theorem zay{v v' o l n:Nat}(t:T α)(h1:v=v')(X:o+l<=n):(W (Xj v v' o l n) t).run=t.run:=xj ⟨h1,X⟩ t
@[simp] theorem gn{a b:Nat}(t:T α)(h:a=b):(W (a=b) t).run=t.run:=xj h t
@[simp] theorem znM{a b:Nat}(t:T α)(h:a<=b):(W (a<=b) t).run=t.run:=xj h t
@[simp] theorem lh{a b:Int}(t:T α)(h:a<=b):(W (a<=b) t).run=t.run:=xj h t
@[simp] theorem tD{a b:Int}(t:T α)(h:a≠b):(W (a≠b) t).run=t.run:=xj h t
@[simp] theorem zri{A:Type}{i:Int}{l:List A}(t:T α)(h1:0<=i)(X:i<(l.length:Int)):(oI i l t).run=t.run:=xj ⟨h1,X⟩ t
@[simp] theorem zrh{A:Type}(l:List A)(t:T α):(V l t).run=t.run:=xj rfl t
@[simp] theorem zrg{A:Type}(l:List A)(t:T α):(oC l t).run=t.run:=xj ⟨rfl,rfl,rfl⟩ t
@[simp] theorem zrk{a b:Nat}(t:T α)(h:a=b):(oM a b t).run=t.run:=(xj ⟨h,rfl,h⟩ _).trans (xj h t)
@[simp] theorem zrf{A:Type}{l:List A}{k:Nat}(t:T α)(h:(l.length+1)*k<=140737488355328):(oA l k t).run=t.run:=xj ⟨rfl,rfl,rfl,h⟩ t
@[simp] theorem zrj{a b:q9}(t:T α)(h:a.length+b.length<=4611686018427387904):(oK a b t).run=t.run:=xj h t
@[simp] theorem Hn(t:T α):(W True t).run=t.run:=xj trivial t
end T
@[simp] theorem qo{x:Int}(h1 : -9223372036854775808<=x)(X:x<=9223372036854775807):qj x=x:=IntWalk.i64_in x ⟨h1,X⟩
@[simp] theorem zfc{x:Int}(h1:0<=x)(X:x<=255):wu8 x=x:=IntWalk.u8_in x ⟨h1,X⟩
@[simp] theorem YK{x:Int}(h1:0<=x)(X:x<=4294967295):jT x=x:=IntWalk.u32_in x ⟨h1,X⟩
@[simp] theorem jm{x:Int}(h1:0<=x)(X:x<=18446744073709551615):xr x=x:=IntWalk.u64_in x ⟨h1,X⟩
theorem sO(x:Int):jT x=x % 4294967296:=IntKind.wrap_u32 x
theorem IW(x:Int):xr x=x % 18446744073709551616:=IntKind.wrap_u64 x
end Go.AM