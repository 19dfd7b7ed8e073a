/-
  The abstract machine, part A: texts of our own, the same for each claim.
-/
import Derived.WalkKit
import Derived.Maps.OwnOps
import Derived.Maps.Views
import Derived.Laws.StructEq
set_option linter.unusedVariables false
open Nat renaming beq -> zA, eq_of_beq_eq_true -> zE, le_refl -> zF, blt -> zI, ble -> zJ, le_of_ble_eq_true -> zK, le_trans -> zS
open Go.Result renaming andThen_ok -> Y
open Go.Sem renaming run_bind -> I, run_pure -> zN
open List renaming length -> W, getElem?_eq_getElem -> zP, getD -> zR, drop_eq_nil_of_le -> zY, length_nil -> zZ
open Pure renaming pure -> zG
open Go.Instr renaming sliceAt -> zH, slice -> zL, indexAt -> zO, sureAddr -> zQ, sliceBounds -> zU, loadAt -> zW, fieldAt -> qC, field -> qE
open Bool renaming and_eq_true -> zM
open Int renaming cast_ofNat_Int -> zT
open Go.Builtin renaming len_ -> zV
open Go.IntKind renaming wrap -> zX
open Go.Op renaming eqFields -> qA, equalIn -> qD
open Go.Value renaming cells -> qB
namespace Go
theorem Z{p:Prop}(h:p:=by omega):p:=h
theorem qj{p:Prop}(h:p:=by decide):p:=h
theorem qu{p:Prop}(h:p:=by simp):p:=h
theorem wa{p:Prop}(h:p:=by grind):p:=h
theorem uY{p:Prop}[Decidable p](h:decide p=true):p:=of_decide_eq_true h
theorem hZ{p:Prop}[Decidable p](h:decide p=false):Not p:=of_decide_eq_false h
end Go
namespace Go.AM
theorem so{a b c d:Prop}(h:a\/b)(f:a->c)(g:b->d):c\/d:=wa
abbrev zo:=List UInt8
inductive Ty where
 | int (k:IntKind) | bool | str | sl (e:Ty) | nil | cons (a b:Ty) | expr
 deriving DecidableEq
inductive Expr where
 | mk (kind:Int) (num:Bool×List Int×List Int×Unit) (name:zo) (kids:List Expr)
def Expr.kind:Expr->Int | .mk k _ _ _=>k
def Expr.num:Expr->Bool×List Int×List Int×Unit | .mk _ n _ _=>n
def Expr.name:Expr->zo | .mk _ _ n _=>n
def Expr.kids:Expr->List Expr | .mk _ _ _ l=>l
@[reducible] def den:Ty->Type
 | .int _=>Int
 | .bool=>Bool
 | .str=>zo
 | .sl e=>List (den e)
 | .nil=>Unit
 | .cons a b=>den a×den b
 | .expr=>Expr
abbrev u32:Ty:=.int .u32
abbrev i64:Ty:=.int .i64
abbrev C0:Ty:=.cons .bool (.cons (.sl u32) (.cons (.sl u32) .nil))
abbrev K9:Ty:=.cons i64 (.cons C0 (.cons .str (.cons (.sl .expr) .nil)))
def Expr.z0V(e:Expr):den K9:=(e.kind,e.num,e.name,e.kids,())
def Expr.Mq(x:den K9):Expr:=.mk x.1 x.2.1 x.2.2.1 x.2.2.2.1
def Ty.size:Ty->Nat
 | .int _ | .bool | .str | .sl _=>1
 | .nil=>0
 | .cons a b=>a.size+b.size
 | .expr=>6
def Ty.isAgg:Ty->Bool
 | .nil | .cons _ _ | .expr=>true
 | _=>false
def zb:(τ:Ty)->den τ
 | .int _=>(0:Int)
 | .bool=>false
 | .str=>([]:zo)
 | .sl e=>([]:List (den e))
 | .nil=>()
 | .cons a b=>(zb a,zb b)
 | .expr=>.mk 0 (false,[],[],()) [] []
inductive D where
 | qi (τ:Ty) (x:den τ)
 | tight (e:Ty) (l:List (den e)) (ne:Bool)
 | sT (e:Ty) (l:List (den e)) (b:Bool)
 | wH | br | vb | gF | uX
 | ptr (b off:Nat)
 | vE (τ:Ty) (x:den τ)
 | gW (b vk:Nat) (e:Ty) (idx off:Nat)
 | ms (b vk:Nat) (e:Ty) (off len:Nat)
 | wj (f:Nat) (cap:List D)
 | agg (cs:List D)
 | eZ (vs:List D)
 | iface (t:Nat) (d:D)
 | V6
 | eN (b T:Nat)
 | nw (T:Nat)
 | gj (b:Nat)
 | BU (l:List Int)
inductive de where
 | dead
 | var (d:D)
 | arr (vk:Nat) (e:Ty) (xs:List (den e))
abbrev St:=List de
inductive T(α:Type) where
 | ret (a:α)
 | ite (b:Bool) (t e:T α)
 | zl (p:Prop) (t:T α)
 | fail
namespace T
variable {α β:Type}
def bind:T α->(α->T β)->T β
 | ret a,k=>k a
 | ite b t e,k=>ite b (t.bind k) (e.bind k)
 | zl p t,k=>zl p (t.bind k)
 | fail,_=>fail
def GB:Option α->T α
 | some a=>ret a
 | none=>fail
def leads:T α->α->Prop
 | ret a,x=>a=x
 | ite b t e,x=>(b=true/\t.leads x)\/(b=false/\e.leads x)
 | zl p t,x=>p/\t.leads x
 | fail,_=>False
def wp(Q:α->Prop):T α->Prop
 | ret a=>Q a
 | ite b t e=>(b=true->t.wp Q)/\(b=false->e.wp Q)
 | zl p t=>p/\t.wp Q
 | fail=>False
end T
abbrev Fr:=List (Nat×Option D)
def Fr.get:Fr->Nat->Option D
 | [],_=>none
 | (t,d)::r,s=>bif zA t s then d else Fr.get r s
def Fr.put(fr:Fr)(dst:Option Nat)(d:Option D):Fr :=
 match dst with
 | some t=>(t,d)::fr
 | none=>fr
abbrev Kn:=List (Nat×Option Bool)
def Kn.get:Kn->Nat->Option Bool
 | [],_=>none
 | (t,b)::r,s=>bif zA t s then b else Kn.get r s
inductive Hj where
 | ret (ds:List D)
 | bE (d:D)
inductive Jn where
 | rp (τ:Ty) | im (τ:Ty)
inductive VX where
 | ty (τ:Ty) | rp (τ:Ty) | wj (f:Nat) (caps:List Jn)
structure Sig where
 params:List VX
 res:List Ty
structure Ctx where
 P:Program
 xid:Nat
 sig:Nat->List D->Option Sig
 fn:Nat->List D->St->T (Hj×St)
 ro:Nat->Bool
 /-- Blocks that a call leaves as they are. -/
 free:Nat->List D->St->List Nat
 z0W:∀ (g:Nat) (args:List D) (st:St) (rs:Hj) (qm:St) (b:Nat),(fn g args st).leads (rs,qm)->b∈free g args st->qm[b]? = st[b]?
 /-- What a call touches that lays no new block. -/
 QN:Nat->List D->Option (List Nat)
 Rs:∀ (g:Nat) (args:List D) (hx:List Nat) (st:St) (rs:Hj) (qm:St),QN g args=some hx->(fn g args st).leads (rs,qm) ->
  qm.length=st.length/\(∀ b,b<st.length->b ∉ hx->qm[b]? = st[b]?)/\∀ x,(fn g args (st++[x])).leads (rs,qm++[x])
inductive Ex where
 | normal | exit (id:Nat) | ret | bE (d:D)
class WI where
 u8:Nat
def zeo[WI](e:Ty)(t:Nat):Bool:=match e with
 | .int .u8=>zA t WI.u8
 | _=>true
def zbn[WI](e:Ty)(t:Nat):Prop:=e=.int .u8->t=WI.u8
section ops
variable (c:Ctx)
variable [WI]
def tL(t:Nat):Option Nat:=(c.P.info? t).map (·.size)
def r9(t:Nat):Option Nat:=(c.P.info? t).map (·.bytes)
def Eo(t:Nat):Option Bool:=match c.P.underlying t with | some (.struct _) | some (.array _ _)=>some true | some _=>some false | none=>none
def oN:List (Option Ty)->Option Ty
 | []=>some .nil
 | some a::r=>match oN r with | some b=>some (.cons a b) | none=>none
 | none::_=>none
def H9:Nat->Nat->Option Ty
 | 0,_=>none
 | n+1,t=>bif zA t c.xid then some .expr else
  match c.P.underlying t with
  | some (.int k)=>some (.int k)
  | some .bool=>some .bool
  | some .string=>some .str
  | some (.slice e)=>match H9 n e with | some a=>some (.sl a) | none=>none
  | some (.struct fs)=>oN (fs.toList.map λf=>H9 n f.type)
  | some (.array k e)=>oN (List.replicate k (H9 n e))
  | _=>none
def cH(t:Nat)(τ:Ty):Bool:=zeo τ t&&(match tL c t with | some n=>zA n τ.size | none=>false)&&(match Eo c t with | some b=>b==τ.isAgg | none=>false)
def XG:Value->Option D
 | .int k n=>some (.qi (.int k) n)
 | .bool b=>some (.qi .bool b)
 | .string s=>some (.qi .str s.data.toList)
 | .slice none 0 0=>some .wH
 | .pointer none=>some .br
 | .nilFunc=>some .gF
 | .nilIface=>some .vb
 | .map none=>some .uX
 | _=>none
def gQ:List (Option D)->Option (List D)
 | []=>some []
 | some d::r=>match gQ r with | some l=>some (d::l) | none=>none
 | none::_=>none
def Kr:Value->Option D
 | .agg cs=>match gQ (cs.toList.map XG)with | some l=>some (.agg l) | none=>none
 | v=>XG v
def flat:(τ:Ty)->den τ->List D
 | .int k,x=>[.qi (.int k) x]
 | .bool,x=>[.qi .bool x]
 | .str,x=>[.qi .str x]
 | .sl e,x=>[.qi (.sl e) x]
 | .nil,_=>[]
 | .cons a b,x=>flat a x.1++flat b x.2
 | .expr,x=>[.qi i64 x.kind,.qi .bool x.num.1,.qi (.sl u32) x.num.2.1,.qi (.sl u32) x.num.2.2.1,.qi .str x.name,.qi (.sl .expr) x.kids]
def wb:D->List D
 | .qi τ x=>flat τ x
 | .agg cs=>cs
 | .eZ _=>[]
 | .BU _=>[]
 | d=>[d]
def D.isAgg:D->Bool
 | .agg _=>true
 | _=>false
def D.cY:D->Bool
 | .qi τ _=>τ.isAgg
 | .agg _=>true
 | _=>false
def D.zfx:D->Bool
 | .qi τ _=>τ.isAgg
 | .agg _=>true
 | _=>false
def lQ:List D->Option Nat
 | .nw T::_=>some T
 | .eN _ T::_=>some T
 | _=>none
def D.typed:D->Option Nat
 | .agg l=>lQ l
 | _=>none
def Qi(d d':D):Bool:=match d'.typed with
 | none=>true
 | some T=>match d.typed with | some T'=>zA T T' | none=>false
def D.G2:D->Bool
 | .BU _=>true
 | _=>false
def D.bT:D->Bool
 | .eZ _=>true
 | _=>false
def jY{a b:Ty}(x:den a):Option (den b):=if h:a=b then some (h▸x)else none
def nu(e:Ty):Nat->Ty
 | 0=>.nil
 | n+1=>.cons e (nu e n)
def Ez:Ty->Option (Ty×Nat)
 | .cons e r=>match r with
  | .nil=>some (e,1)
  | r=>match Ez r with
   | some (e',n)=>bif decide (e=e')then some (e,n+1)else none
   | none=>none
 | _=>none
def WU(e:Ty):(τ:Ty)->den τ->Nat->den e
 | .cons _ _,x,0=>match(jY x.1:Option (den e))with | some y=>y | none=>zb e
 | .cons _ b,x,i+1=>WU e b x.2 i
 | _,_,_=>zb e
def S6{e:Ty}(f:Nat->den e):(n:Nat)->Nat->den (nu e n)
 | 0,_=>()
 | n+1,k=>(f k,S6 f n (k+1))
def rb(τ:Ty):D->Option (den τ)
 | .qi σ x=>jY x
 | .tight e l _=>jY (a:=.sl e) l
 | .sT e l _=>jY (a:=.sl e) l
 | .wH=>match τ with | .sl e=>some ([]:List (den e)) | _=>none
 | _=>none
def dc:(τ:Ty)->List D->Option (den τ×List D)
 | .int k,d::r=>match rb (.int k) d with | some x=>some (x,r) | none=>none
 | .bool,d::r=>match rb .bool d with | some x=>some (x,r) | none=>none
 | .str,d::r=>match rb .str d with | some x=>some (x,r) | none=>none
 | .sl e,d::r=>match rb (.sl e) d with | some x=>some (x,r) | none=>none
 | .nil,r=>some ((),r)
 | .cons a b,r=>match dc a r with
  | some (x,r')=>match dc b r' with | some (y,r'')=>some ((x,y),r'') | none=>none
  | none=>none
 | .expr,[]=>none
 | .expr,d::r=>match rb i64 d with
  | none=>none
  | some k=>match r with
   | d1::d2::d3::d4::d5::r' =>
    match rb .bool d1,rb (.sl u32) d2,rb (.sl u32) d3,rb .str d4,rb (.sl .expr) d5 with
    | some a,some n,some m,some s,some l=>some (Expr.mk k (a,n,m,()) s l,r')
    | _,_,_,_,_=>none
   | _=>none
 | _,[]=>none
def p9(τ:Ty)(d:D):Option (den τ) :=
 match d with
 | .qi σ x=>jY x
 | .BU _=>none
 | d=>bif (d.isAgg==τ.isAgg) && !d.bT then match dc τ (wb d)with
   | some (x,[])=>some x
   | _=>none
  else none
def Zy(st:St):D->T D
 | .ms b vk e off len=>match st[b]? with
  | some (.arr dZ e' xs)=>if h:e'=e then .zl (vk=dZ) (.ret (.qi (.sl e) (h▸((xs.take (off+len)).drop off:List (den e')))))else .fail
  | _=>.fail
 | d=>.ret d
def C6(st:St):List D->T (List D)
 | []=>.ret []
 | d::r=>(Zy st d).bind λx=>(C6 st r).bind λl=>.ret (x::l)
def snap(st:St):D->T D
 | .agg cs=>(C6 st cs).bind λl=>.ret (.agg l)
 | d=>Zy st d
def Ua(st:St)(τ:Ty)(d:D):T (den τ):=(snap st d).bind λx=>.GB (p9 τ x)
def UA:D->Bool | .ms .. => true | _=>false
inductive eE where
 | val (t:T (Option D))
 | rd (k:St->T (Option D))
 | wr (k:St->T (Option D×St))
def val(d:D):eE:=.val (.ret (some d))
def z9F(d:Option D):eE:=match d with | some d=>.val (.ret (some d)) | none=>.val .fail
def bad:eE:=.val .fail
def zbo(t:Nat):Bool:=match c.P.underlying t with
 | some (.struct fs)=>match fs[0]? with
  | some fd=>match c.P.underlying fd.type with | some (.pointer e)=>zA e t | _=>false
  | none=>false
 | _=>false
def z3d(t:Nat)(d:D):D:=match d with
 | .agg (.br::r)=>bif zbo c t then .agg (.nw t::r)else .agg (.br::r)
 | d=>d
def KH(t:Nat):Option D:=match c.P.info? t with
 | some i=>match i.zero with | some z=>(match Kr z with | some d=>some (z3d c t d) | none=>none) | none=>none
 | none=>none
def Ce(l:List D)(off n:Nat):Option (List D) :=
 bif zJ (off+n) l.length then some ((l.drop off).take n)else none
def MZ(t:Nat)(d:D)(off:Nat):Option D :=
 match Eo c t with
 | some true=>match tL c t with
  | none=>none
  | some n=>bif (zA off 0)&&zA n (wb d).length&&d.zfx then some d
   else match Ce (wb d) off n with | some l=>some (.agg l) | none=>none
 | some false=>(wb d)[off]?
 | none=>none
def HV(t:Nat)(d:D)(off:Nat)(x:D):Option D :=
 match tL c t with
 | none=>none
 | some n=>bif zI 0 n&&zA n (wb x).length&&zJ (off+n) (wb d).length then
   bif zA n (wb d).length then(bif d.cY && !x.cY then some (.agg (wb x))else some x)
   else some (.agg ((wb d).take off++wb x++(wb d).drop (off+n)))
  else none
def Vq(t:Nat)(a:Option D):eE:=match a with
 | some (.vE τ x)=>bif cH c t τ then val (.qi τ x)else bad
 | some (.ptr b off)=>.rd λst=>match st[b]? with
  | some (.var d)=>bif d.G2 then .fail else match MZ c t d off with | some r=>.ret (some r) | none=>.fail
  | _=>.fail
 | some (.gW b vk e idx off)=>.rd λst=>match st[b]? with
  | some (.arr dZ e' xs)=>bif decide (e'=e)then
    .zl (vk=dZ/\idx<xs.length) (match MZ c t (.qi e' (xs.getD idx (zb e'))) off with | some r=>.ret (some r) | none=>.fail)
   else .fail
  | _=>.fail
 | _=>bad
def Yo(t:Nat)(a:Option D)(v:Option D):eE:=match a,v with
 | some (.ptr b off),some x=>.wr λst=>match st[b]? with
  | some (.var d)=>match HV c t d off x with | some r=>bif Qi d r then .ret (none,st.set b (.var r))else .fail | none=>.fail
  | _=>.fail
 | some (.gW b vk e idx off),some x=>.wr λst=>match st[b]? with
  | some (.arr dZ e' xs)=>bif decide (e'=e)then
    .zl (vk=dZ/\idx<xs.length) (match HV c t (.qi e' (xs.getD idx (zb e'))) off x with
     | some r=>match p9 e' r with | some y=>.ret (none,st.set b (.arr dZ e' (xs.set idx y))) | none=>.fail
     | none=>.fail)
   else .fail
  | _=>.fail
 | _,_=>bad
def Xp:(τ:Ty)->den τ->Nat->Option (D×Nat×Nat)
 | .cons a _,x,0=>some (.vE a x.1,0,a.size)
 | .cons a b,x,n+1=>match Xp b x.2 n with | some (d,o,s)=>some (d,a.size+o,s) | none=>none
 | .expr,x,0=>some (.vE i64 x.kind,0,1)
 | .expr,x,1=>some (.vE C0 x.num,1,3)
 | .expr,x,2=>some (.vE .str x.name,4,1)
 | .expr,x,3=>some (.vE (.sl .expr) x.kids,5,1)
 | _,_,_=>none
def Y4(s f:Nat):Option (Nat×Nat):=match c.P.underlying s with
 | some (.struct fs)=>match fs[f]? with
  | some fd=>match tL c fd.type with | some n=>bif zA n 0 then none else some (fd.offset,n) | none=>none
  | none=>none
 | _=>none
def Xn(s f:Nat)(a:Option D):eE:=match Y4 c s f with
 | none=>bad
 | some (o,n)=>match a with
  | some (.vE τ x)=>match Xp τ x f with
   | some (d,o',n')=>bif zA o o'&&zA n n' then val d else bad
   | none=>bad
  | some (.ptr b off)=>val (.ptr b (off+o))
  | some (.gW b vk e idx off)=>val (.gW b vk e idx (off+o))
  | _=>bad
def CW(s f:Nat)(a:Option D):eE:=match c.P.underlying s with
 | some (.struct fs)=>match fs[f]? with
  | some fd=>match a with
   | some d=>z9F (bif d.cY then MZ c fd.type d fd.offset else none)
   | none=>bad
  | none=>bad
 | _=>bad
def asInt:Option D->Option (IntKind×Int)
 | some (.qi (.int k) n)=>some (k,n)
 | _=>none
def Yz:Option D->Option zo
 | some (.qi .str s)=>some s
 | _=>none
def asBool:Option D->Option Bool
 | some (.qi .bool b)=>some b
 | _=>none
def nD(t:Nat):Option Nat:=match c.P.underlying t with | some (.slice e)=>some e | _=>none
def zc6(t:Nat):Option (Nat×Nat):=match c.P.underlying t with | some (.array n e)=>some (n,e) | _=>none
def G0(t:Nat)(x:Option D)(i:Int):eE:=match zc6 c t,x with
 | some (n,et),some (.vE τ y)=>match Ez τ with
  | some (e,m)=>bif cH c et e&&zA n m then .val (.zl (0<=i/\i<(n:Int)) (.ret (some (.vE e (WU e τ y i.toNat)))))else bad
  | none=>bad
 | _,_=>bad
def Xr(t:Nat)(x i:Option D):eE:=match nD c t,asInt i with
 | none,some (_,i)=>G0 c t x i
 | some et,some (_,i)=>match x with
  | some (.qi (.sl e) l)=>bif cH c et e then .val (.zl (0<=i/\i<(W l:Int)) (.ret (some (.vE e (zR l i.toNat (zb e))))))else bad
  | some (.tight e l _)=>bif cH c et e then .val (.zl (0<=i/\i<(W l:Int)) (.ret (some (.vE e (zR l i.toNat (zb e))))))else bad
  | some (.ms b vk e off len)=>bif cH c et e then .val (.zl (0<=i/\i<(len:Int)) (.ret (some (.gW b vk e (off+i.toNat) 0))))else bad
  | _=>bad
 | _,_=>bad
def Dc(t:Nat)(x i:Option D):eE:=match asInt i,Yz x,c.P.underlying t with
 | some (_,i),some s,some .string=>.val (.zl (0<=i/\i<(W s:Int)) (.ret (some (.qi (.int .u8) ((zR s i.toNat 0).toNat:Int)))))
 | _,_,_=>bad
def S8(d:Int):Option (Option D)->Option Int
 | none=>some d
 | some x=>match asInt x with | some (_,i)=>some i | none=>none
def iv(l h:Int)(s:zo):zo:=(s.take h.toNat).drop l.toNat
def jS{e:Ty}(l h:Int)(s:List (den e)):List (den e):=(s.take h.toNat).drop l.toNat
def DN(t:Nat)(x:Option D)(lo hi mx:Option (Option D)):eE:=match x with
 | some (.qi .str s)=>match c.P.underlying t,mx,S8 0 lo,S8 (W s) hi with
  | some .string,none,some l,some h=>.val (.zl (0<=l/\l<=h/\h<=(W s:Int)) (.ret (some (.qi .str (iv l h s)))))
  | _,_,_,_=>bad
 | some (.qi (.sl e) s)=>match nD c t,S8 0 lo,S8 (W s) hi with
  | some et,some l,some h=>bif cH c et e then match mx with
    | none=>.val (.zl (0<=l/\l<=h/\h<=(W s:Int)) (.ret (some (.qi (.sl e) (jS l h s)))))
    | some m=>match asInt m with
     | some (_,m)=>bif hi.isSome then .val (.zl (0<=l/\l<=h/\h=m/\h<=(W s:Int)) (.ret (some (.tight e (jS l h s) false))))else bad
     | none=>bad
   else bad
  | _,_,_=>bad
 | some (.tight e s _)=>match nD c t,mx,S8 0 lo,S8 (W s) hi with
  | some et,none,some l,some h=>bif cH c et e then .val (.zl (0<=l/\l<=h/\h<=(W s:Int)) (.ret (some (.qi (.sl e) (jS l h s)))))else bad
  | _,_,_,_=>bad
 | some (.ms b vk e off len)=>match nD c t,mx,S8 0 lo,S8 len hi with
  | some et,none,some l,some h=>bif cH c et e then .val (.zl (0<=l/\l<=h/\h<=(len:Int)) (.ret (some (.ms b vk e (off+l.toNat) (h.toNat-l.toNat)))))else bad
  | _,_,_,_=>bad
 | _=>bad
def ib(k:IntKind)(n:Int):eE:=val (.qi (.int k) n)
def bb(b:Bool):eE:=val (.qi .bool b)
def X4(k:IntKind)(f:BitVec k.bits->BitVec k.bits->BitVec k.bits)(x y:Int):Int:=k.wrap (f (BitVec.ofInt k.bits x) (BitVec.ofInt k.bits y)).toNat
def Zx(k:IntKind)(a b:Int):Int:=k.wrap (a*2 ^ (min b.toNat k.bits))
def jx(k:IntKind)(a b:Int):Int:=Int.fdiv a (2 ^ (min b.toNat k.bits))
def Lh(op:BinOp)(k:IntKind)(a b:Int):eE:=match op with
 | .add=>ib k (k.wrap (a+b))
 | .sub=>ib k (k.wrap (a-b))
 | .mul=>ib k (k.wrap (a*b))
 | .quo=>.val (.zl (b≠0) (.ret (some (.qi (.int k) (k.wrap (a.tdiv b))))))
 | .rem=>.val (.zl (b≠0) (.ret (some (.qi (.int k) (a.tmod b)))))
 | .and=>ib k (X4 k (· &&& ·) a b)
 | .or=>ib k (X4 k (· ||| ·) a b)
 | .xor=>ib k (X4 k (· ^^^ ·) a b)
 | .eql=>bb (a==b)
 | .neq=>bb (a != b)
 | .lss=>bb (decide (a<b))
 | .leq=>bb (decide (a<=b))
 | .gtr=>bb (decide (b<a))
 | .geq=>bb (decide (b<=a))
 | _=>bad
def xw(a b:zo):Bool:=a==b
def strLt(a b:zo):Bool:=Op.bytesLess a b
def cat(a b:zo):zo:=a++b
def Ll(op:BinOp)(a b:zo):eE:=match op with
 | .add=>.val (.zl (a.length+b.length<=4611686018427387904) (.ret (some (.qi .str (cat a b)))))
 | .eql=>bb (xw a b)
 | .neq=>bb (!xw a b)
 | .lss=>bb (strLt a b)
 | .leq=>bb (strLt a b||xw a b)
 | .gtr=>bb (!(strLt a b||xw a b))
 | .geq=>bb (!strLt a b)
 | _=>bad
def z0Q(op:BinOp)(a b:Bool):eE:=match op with
 | .eql=>bb (a==b)
 | .neq=>bb (!(a==b))
 | _=>bad
def Yd:BinOp->Bool
 | .shl | .shr=>true
 | _=>false
def z9W(a:Ty)(t:Nat):Bool:=match a,c.P.underlying t with
 | .int k,some (.int k')=>decide (k=k')
 | .bool,some .bool=>true
 | .str,some .string=>true
 | _,_=>false
def Us:Ty->Nat->List Field->Bool
 | .nil,_,[]=>true
 | .cons a r,off,f::fs=>decide (f.name ≠ "_")&&(zA f.offset off&&(z9W c a f.type&&Us r (off+1) fs))
 | _,_,_=>false
def eqT:(τ:Ty)->den τ->den τ->Bool
 | .int _,(a:Int),(b:Int)=>a==b
 | .bool,(a:Bool),(b:Bool)=>a==b
 | .str,(a:zo),(b:zo)=>xw a b
 | .cons a r,(x:den a×den r),(y:den a×den r)=>eqT a x.1 y.1&&eqT r x.2 y.2
 | _,_,_=>true
def H3(τ:Ty)(t:Nat):Bool:=match c.P.underlying t with
 | some (.struct fs)=>Us c τ 0 fs.toList&&(!(c.P.stoodInHeld t) && !(c.P.eqGuardType c.P.depth t))
 | _=>false
def z0P(op:BinOp)(t:Nat)(x y:Option D):eE:=match x,y with
 | some (.qi τ a),some (.qi σ b)=>match(jY b:Option (den τ))with
  | some b=>bif τ.isAgg&&H3 c τ t then(match op with
   | .eql=>bb (eqT τ a b)
   | .neq=>bb (!eqT τ a b)
   | _=>bad)else bad
  | none=>bad
 | _,_=>bad
def YB(op:BinOp)(t:Nat)(x y:Option D):eE:=match asInt x,asInt y with
 | some (k,a),some (k',b)=>match op with
  | .shl=>.val (.zl (0<=b) (.ret (some (.qi (.int k) (Zx k a b)))))
  | .shr=>.val (.zl (0<=b) (.ret (some (.qi (.int k) (jx k a b)))))
  | op=>bif decide (k=k')then Lh op k a b else bad
 | _,_=>match Yz x,Yz y with
  | some a,some b=>bif Yd op then bad else Ll op a b
  | _,_=>match c.P.underlying t,asBool x,asBool y with
   | some .bool,some a,some b=>z0Q op a b
   | _,_,_=>z0P c op t x y
def Dq(op:BinOp)(t:Nat)(x:Option D):eE:=match c.P.underlying t with
 | some (.interface _)=>match op,x with
  | .eql,some .vb=>bb true
  | .eql,some (.iface _ _)=>bb false
  | .neq,some .vb=>bb false
  | .neq,some (.iface _ _)=>bb true
  | _,_=>bad
 | _=>bad
def Qx(x:Option D)(at':Nat)(ok:Bool):eE:=match c.P.underlying at' with
 | some (.interface _)=>bad
 | none=>bad
 | some _=>match x with
  | some (.iface t d)=>bif zA t at'&&ok then val (.eZ [d,.qi .bool true])else bad
  | _=>bad
def Du(op:BinOp)(t:Nat)(x:Option D)(z:eE):eE:=match c.P.underlying t with
 | some (.slice _)=>match op,x with
  | .eql,some .wH=>bb true
  | .eql,some (.sT _ _ b)=>bb (!b)
  | .neq,some .wH=>bb false
  | .neq,some (.sT _ _ b)=>bb b
  | _,_=>z
 | _=>z
def Dt(op:BinOp)(t:Nat)(x:Option D)(z:eE):eE:=match c.P.underlying t with
 | some (.pointer _)=>match op,x with
  | .eql,some .br=>bb true
  | .eql,some (.ptr _ _)=>bb false
  | .eql,some (.vE _ _)=>bb false
  | .neq,some .br=>bb false
  | .neq,some (.ptr _ _)=>bb true
  | .neq,some (.vE _ _)=>bb true
  | _,_=>z
 | _=>z
def Lk(op:BinOp)(t:Nat)(p:Operand)(x y:Option D):eE:=match p with
 | .const .nilIface=>Dq c op t x
 | .const (.slice none 0 0)=>Du c op t x (YB c op t x y)
 | .const (.pointer none)=>Dt c op t x (YB c op t x y)
 | _=>YB c op t x y
def z4u(op:UnOp)(x:Option D):eE:=match op with
 | .neg=>match asInt x with | some (k,n)=>ib k (k.wrap (0-n)) | none=>bad
 | .not=>match asBool x with | some b=>bb (!b) | none=>bad
 | .xor=>match asInt x with | some (k,n)=>ib k (X4 k (· ^^^ ·) (if k.signed then -1 else k.max) n) | none=>bad
 | _=>bad
def byteOf(n:Int):UInt8:=UInt8.ofNat n.toNat
def Io(e:Ty):D->Option (List (den e))
 | .qi σ y=>jY (a:=σ) (b:=.sl e) y
 | .tight e' y _=>jY (a:=.sl e') (b:=.sl e) y
 | .wH=>some []
 | _=>none
def jb(l:List Int):zo:=l.map byteOf
def Jt(e:Nat)(x:Option D):eE:=match c.P.underlying e,x with
 | some (.int .u8),some d=>.rd λst=>(Zy st d).bind λy=>match Io (.int .u8) y with
  | some l=>.ret (some (.qi .str (jb l)))
  | none=>.fail
 | _,_=>bad
def convertOp(s t:Nat)(x:Option D):eE:=match c.P.underlying s,c.P.underlying t with
 | some (.slice e),some .string=>Jt c e x
 | some (.int _),some (.int k)=>match asInt x with | some (_,n)=>ib k (k.wrap n) | none=>bad
 | some .string,some .string=>match Yz x with | some s=>val (.qi .str s) | none=>bad
 | _,_=>bad
def z1X(t:Nat)(x:Option D):eE:=match c.P.underlying t with
 | some (.slice _)=>match x with
  | some (.qi (.sl _) l)=>ib .i64 (W l)
  | some (.tight _ l _)=>ib .i64 (W l)
  | some .wH=>ib .i64 0
  | some (.ms _ _ _ _ len)=>ib .i64 (len:Nat)
  | _=>bad
 | some .string=>match Yz x with
  | some s=>ib .i64 (W s)
  | none=>bad
 | _=>bad
def ex(e:Ty){e':Ty}(xs:List (den e')):Option (List (den e)):=jY (a:=.sl e') (b:=.sl e) xs
def pP(e:Ty)(l ys:List (den e))(bytes:Nat)(st:St):T (Option D×St) :=
 .zl ((l.length+ys.length)*bytes<=140737488355328) (.ret (some (.ms st.length (l.length+ys.length) e 0 (l.length+ys.length)),st++[.arr (l.length+ys.length) e (l++ys)]))
def bK(e:Ty)(s:D)(ys:List (den e))(ne:Bool)(bytes:Nat)(st:St):T (Option D×St):=match s with
 | .wH=>bif ne then pP e [] ys bytes st else .ite ys.isEmpty (.ret (some s,st)) (pP e [] ys bytes st)
 | .tight e' l _=>match ex e l with
  | some l=>bif ne then pP e l ys bytes st else .ite ys.isEmpty (.ret (some s,st)) (pP e l ys bytes st)
  | none=>.fail
 | .sT e' l b=>match ex e l with
  | some []=>bif b then .zl (ys.length*bytes<=140737488355328) (.ret (some (.sT e ys true),st))else .fail
  | _=>.fail
 | .ms b vk e' off len=>match st[b]? with
  | some (.arr dZ e'' xs)=>match ex e xs with
   | some xs=>bif decide (e'=e)then .zl (vk=dZ/\off=0/\len=xs.length/\(xs.length+ys.length)*bytes<=140737488355328)
     (.ret (some (.ms b (vk+ys.length) e 0 (len+ys.length)),st.set b (.arr (vk+ys.length) e (xs++ys))))else .fail
   | none=>.fail
  | _=>.fail
 | _=>.fail
def zeroOf(et:Nat)(e:Ty):Option (den e):=match KH c et with | some z=>p9 e z | none=>none
def X2(t:Nat)(s x:Option D):eE:=match nD c t with
 | none=>bad
 | some et=>match H9 c 20 et,r9 c et with
  | some e,some bytes=>bif cH c et e&&zI 0 e.size&&zI 0 bytes&&(zeroOf c et e).isSome then match s,x with
    | some s,some x=>.wr λst=>(Zy st x).bind λx=>match x with
     | .qi _ y=>match(jY y:Option (den (.sl e)))with
      | some ys=>bK e s ys false bytes st
      | none=>.fail
     | .tight _ y ne=>match ex e y with
      | some ys=>bK e s ys ne bytes st
      | none=>.fail
     | .wH=>bK e s [] false bytes st
     | _=>.fail
    | _,_=>bad
   else bad
  | _,_=>bad
def bytesOf(s:zo):List Int:=s.map λb=>((b.toNat:Nat):Int)
def Z5(t t':Nat)(s x:Option D):eE:=match nD c t with
 | none=>bad
 | some et=>match H9 c 20 et,r9 c et,c.P.underlying t' with
  | some (.int .u8),some bytes,some .string=>bif cH c et (.int .u8)&&zI 0 bytes&&(zeroOf c et (.int .u8)).isSome then match s,x with
    | some s,some (.qi .str l)=>.wr λst=>bK (.int .u8) s (bytesOf l) false bytes st
    | _,_=>bad
   else bad
  | _,_,_=>bad
def Mf(t:Nat)(n m:Option D):eE:=match nD c t,asInt n,asInt m with
 | some et,some (_,n),some (_,m)=>match H9 c 20 et,r9 c et with
  | some e,some bytes=>match zeroOf c et e with
   | some z=>bif cH c et e&&zI 0 e.size then
     .wr λst=>.zl (0<=n/\n<=m/\m*bytes<=140737488355328/\m<=140737488355328) (.ret (some (.ms st.length n.toNat e 0 n.toNat),st++[.arr n.toNat e (List.replicate n.toNat z)]))
    else bad
   | none=>bad
  | _,_=>bad
 | _,_,_=>bad
def Bq(e:Ty):Nat->List (Nat×Option D)->Option (List (den e))
 | _,[]=>some []
 | i,(j,some d)::r=>bif zA i j then match p9 e d,Bq e (i+1) r with
   | some x,some l=>some (x::l)
   | _,_=>none
  else none
 | _,_=>none
def cy(t n:Nat)(ps:List (Nat×Option D)):eE:=match nD c t with
 | none=>bad
 | some et=>match H9 c 20 et with
  | some e=>bif cH c et e&&zA n ps.length&&zJ n 1000&&zJ e.size 100&&(zeroOf c et e).isSome then match Bq e 0 ps with
    | some l=>bif zA n 0&&zI 0 e.size then .wr λst=>.ret (some (.ms st.length 0 e 0 0),st++[.arr 0 e []])else val (.tight e l (!zA n 0))
    | none=>bad
   else bad
  | none=>bad
def U7(t:Nat)(z:eE):eE:=match nD c t with
 | none=>z
 | some et=>match H9 c 20 et with
  | some e=>bif cH c et e&&(zeroOf c et e).isSome then val (.sT e [] true)else z
  | none=>z
def sq(places:List (Nat×Nat)):List (Nat×Option D)->List D->Option (List D)
 | [],cells=>some cells
 | (i,some d)::r,cells=>match places[i]? with
  | some (off,n)=>bif !d.bT&&zA n (wb d).length&&zJ (off+n) cells.length then
     sq places r (cells.take off++wb d++cells.drop (off+n))else none
  | none=>none
 | _,_=>none
def CE(t:Nat)(ps:List (Nat×Option D)):eE:=match c.P.underlying t with
 | some (.struct fs)=>match KH c t,fs.toList.mapM (λf=>(c.P.info? f.type).map λi=>(f.offset,i.size))with
  | some (.agg z),some places=>match sq places ps z with
   | some l=>val (.agg l)
   | none=>bad
  | _,_=>bad
 | some (.array k e)=>match KH c t,c.P.info? e with
  | some (.agg z),some ie=>match sq ((List.range k).map λi=>(i*ie.size,ie.size)) ps z with
   | some l=>val (.agg l)
   | none=>bad
  | _,_=>bad
 | _=>bad
def JB(x:Option D)(i:Nat):eE:=match x with
 | some (.eZ vs)=>z9F vs[i]?
 | _=>bad
def ft:List D->D
 | [d]=>d
 | ds=>.eZ ds
def Ty.scalar:Ty->Bool
 | .int _ | .bool | .str=>true
 | .cons a b=>a.scalar&&b.scalar
 | .nil=>true
 | _=>false
def WB:D->Bool
 | .qi τ _=>τ.scalar
 | _=>false
def QD(st:St)(τ:Ty):D->T D
 | .vE _ x=>match(jY x:Option (den τ))with | some y=>.ret (.vE τ y) | none=>.fail
 | .ptr b off=>match st[b]? with
  | some (.var d)=>match bif zA off 0 then p9 τ d else none with | some y=>.ret (.vE τ y) | none=>.fail
  | _=>.fail
 | _=>.fail
def Xa(st:St):Jn->D->T D
 | .im τ,d=>(Ua st τ d).bind λx=>.ret (.qi τ x)
 | .rp τ,d=>QD st τ d
def mW(st:St):List Jn->List D->T (List D)
 | [],[]=>.ret []
 | p::r,d::ds=>(Xa st p d).bind λx=>(mW st r ds).bind λl=>.ret (x::l)
 | _,_=>.fail
def EN(st:St):VX->D->T D
 | .ty τ,d=>(Ua st τ d).bind λx=>.ret (.qi τ x)
 | .rp τ,d=>QD st τ d
 | .wj f caps,.wj f' l=>bif zA f f' then(mW st caps l).bind λl=>.ret (.wj f l)else .fail
 | _,_=>.fail
def QC(st:St):List VX->List D->T (List D)
 | [],[]=>.ret []
 | p::r,d::ds=>(EN st p d).bind λx=>(QC st r ds).bind λl=>.ret (x::l)
 | _,_=>.fail
def zd8:D->Bool | .ptr .. => true | _=>false
def JQ:D->Bool
 | .agg cs=>cs.any UA
 | .wj _ l=>l.any λd=>UA d||zd8 d
 | .ptr .. => true
 | d=>UA d
def z45(r:Hj×St):T (Option D):=match r with
 | (.ret ds,[])=>.ret (some (ft ds))
 | _=>.fail
def Wy(r:Hj×St):T (Option D):=match r with
 | (.ret ds,[])=>bif ds.all WB then .ret (some (ft ds))else .fail
 | _=>.fail
def eR(g:Nat)(s:Sig)(args:List D):eE :=
 bif !(args.any JQ)then .val ((QC [] s.params args).bind λl=>(c.fn g l []).bind z45)
 else .rd λst=>(QC st s.params args).bind λl=>(c.fn g l []).bind Wy
def sY(g:Nat)(args:List D):eE:=.wr λst=>(c.fn g args st).bind λr=>match r.1 with
 | .ret ds=>.ret (some (ft ds),r.2)
 | .bE _=>.fail
def eM(g:Nat):Nat:=bif zJ 1000000 g then g % 1000000 else g
def cm{α:Type}(g:Nat)(l caps:List α):List α:=bif zJ 1000000 g then caps++l else l++caps
def fx(f:Option D)(args:List (Option D)):eE:=match f,gQ args with
 | some (.wj g caps),some l=>match c.sig (eM g) (cm g l caps)with
  | some s=>eR c (eM g) s (cm g l caps)
  | none=>sY c (eM g) (cm g l caps)
 | _,_=>bad
def Vs(a b:Int):Int:=if b<a then b else a
def lU(a b:Int):Int:=if a<b then b else a
def Gt(f:Int->Int->Int)(args:List (Option D)):eE:=match args with
 | [x,y]=>match asInt x,asInt y with
  | some (k,a),some (k',b)=>bif decide (k=k')then ib k (f a b)else bad
  | _,_=>bad
 | _=>bad
def yL{α:Type}(off len:Nat)(xs l:List α):List α:=xs.take off++l.take len++xs.drop (off+min len l.length)
def z0H(k:IntKind)(b vk off len:Nat)(l:List Int)(st:St):T (Option D×St):=match st[b]? with
 | some (.arr dZ e' xs)=>match ex (.int k) xs with
  | some xs=>.zl (vk=dZ/\off+len<=W xs) (.ret (some (.qi i64 ((min len l.length:Nat):Int)),st.set b (.arr dZ (.int k) (yL off len xs l))))
  | none=>.fail
 | _=>.fail
def Ly(t:Nat)(s x:Option D):eE:=match nD c t with
 | some et=>match c.P.underlying et,tL c et,s,x with
  | some (.int k),some 1,some (.ms b vk (.int k') off len),some d=>bif decide (k'=k)then .wr λst=>(Zy st d).bind λy=>match Io (.int k) y with
    | some l=>z0H k b vk off len l st
    | none=>.fail
   else bad
  | _,_,_,_=>bad
 | none=>bad
def ml(b:Builtin)(ts:List Nat)(args:List (Option D)):eE:=match b,ts,args with
 | .len,t::_,x::_=>z1X c t x
 | .append,[t,t'],[s,x]=>bif zA t t' then X2 c t s x else Z5 c t t' s x
 | .copy,[t,_],[s,x]=>Ly c t s x
 | .min,_,args=>Gt Vs args
 | .max,_,args=>Gt lU args
 | _,_,_=>bad
def bO(fr:Fr):Operand->Option D
 | .tmp t=>fr.get t
 | .const v=>Kr v
 | .global _=>none
 | .func f=>bif zI f 1000000 then some (.wj f [])else none
def VD(x:Option D):eE:=match x with
 | some (.ptr b o)=>val (.ptr b o)
 | some (.vE τ x)=>val (.vE τ x)
 | some (.gW b v e i o)=>val (.gW b v e i o)
 | some (.wj f l)=>val (.wj f l)
 | _=>bad
def MD(x a b:Option D):eE:=match asBool x with
 | some x=>.val (.ite x (.ret a) (.ret b))
 | none=>bad
def Xx(t:Nat)(x:Option D):eE:=match c.P.underlying t with
 | some (.interface _) | none=>bad
 | some _=>match x with | some d=>val (.iface t d) | none=>bad
def z0u(x:Option D):eE:=match x with
 | some d=>bif d.bT||d.typed.isSome then bad else .wr λst=>.ret (some (.ptr st.length 0),st++[.var d])
 | none=>bad
def z0v(t:Nat)(x:Option D):eE:=match x with
 | some (.qi τ x)=>val (.vE τ x)
 | some d=>match H9 c 20 t with
  | some τ=>match p9 τ d with | some x=>val (.vE τ x) | none=>bad
  | none=>bad
 | none=>bad
def z47:Option Nat->Bool
 | some s=>c.ro s
 | none=>false
def z0t(t:Nat)(dst:Option Nat)(x:Option D):eE:=bif z47 c dst then z0v c t x else z0u x
def p8(t:Nat):eE:=match KH c t with
 | some d=>.wr λst=>.ret (some (.ptr st.length 0),st++[.var d])
 | none=>bad
def G1:IntKind->Bool
 | .i64=>true
 | _=>false
def Fz(t:Nat):Bool:=match c.P.underlying t with
 | some (.map k e)=>(match c.P.underlying k with | some (.int q)=>G1 q | _=>false)&&(match c.P.underlying e with | some .bool=>true | _=>false)&&(match c.P.info? e with | some i=>(match i.zero with | some (.bool z) => !z | _=>false) | none=>false)
 | _=>false
def wfI(n:Int):Prop:=(Lit.int .i64 n).wf=true
def z3g(y:Bool)(n:Int)(l:List Int):Prop:=y=true/\wfI n/\l.length<4294967296
def JM(t:Nat)(r:Option Operand):eE:=bif Fz c t&&r.isNone then .wr λst=>.ret (some (.gj st.length),st++[.var (.BU [])])else bad
def Gl(t:Nat)(ok:Bool)(m x:Option D):eE:=bif Fz c t && !ok then match m,asInt x with
 | some (.gj b),some (q,n)=>bif G1 q then .rd λst=>match st[b]? with
  | some (.var (.BU l))=>.zl (wfI n) (.ret (some (.qi .bool (l.contains n))))
  | _=>.fail
  else bad
 | some .uX,some (q,n)=>bif G1 q then .val (.zl (wfI n) (.ret (some (.qi .bool false))))else bad
 | _,_=>bad
 else bad
def Gp(t:Nat)(m x v:Option D):eE:=bif Fz c t then match m,asInt x,asBool v with
 | some (.gj b),some (q,n),some y=>bif G1 q then .wr λst=>match st[b]? with
  | some (.var (.BU l))=>.zl (z3g y n l) (.ret (none,st.set b (.var (.BU (l++[n])))))
  | _=>.fail
  else bad
 | _,_,_=>bad
 else bad
def wS(ρ:Operand->Option D)(o:Oper):eE:=match o.op with
 | .move x | .assign x=>.val (.ret (ρ x))
 | .pick x a b=>MD (ρ x) (ρ a) (ρ b)
 | .alloc t=>p8 c t
 | .box t x=>z0t c t o.dst (ρ x)
 | .load t a=>Vq c t (ρ a)
 | .store t a v=>Yo c t (ρ a) (ρ v)
 | .nilCheck x=>VD (ρ x)
 | .binOp op t x y _=>Lk c op t y (ρ x) (ρ y)
 | .typeAssert x _ t ok=>Qx c (ρ x) t ok
 | .unOp op _ x=>z4u op (ρ x)
 | .convert s t x=>convertOp c s t (ρ x)
 | .makeInterface t x=>Xx c t (ρ x)
 | .makeMap t r=>JM c t r
 | .lookup t m x ok=>Gl c t ok (ρ m) (ρ x)
 | .mapUpdate t m x v=>Gp c t (ρ m) (ρ x) (ρ v)
 | .makeFunc (.func f) first cap=>bif zA first.size 0&&zI f 1000000 then match gQ (cap.toList.map ρ)with | some l=>val (.wj f l) | none=>bad
   else bif zA cap.size 0&&zI f 1000000 then match gQ (first.toList.map ρ)with | some l=>val (.wj (f+1000000) l) | none=>bad else bad
 | .makeSlice t l m=>Mf c t (ρ l) (ρ m)
 | .slice t x lo hi mx=>DN c t (ρ x) (lo.map ρ) (hi.map ρ) (mx.map ρ)
 | .fieldAddr s x f=>Xn c s f (ρ x)
 | .field s x f=>CW c s f (ρ x)
 | .indexAddr t x i=>Xr c t (ρ x) (ρ i)
 | .index t x i=>Dc c t (ρ x) (ρ i)
 | .extract x i=>JB (ρ x) i
 | .build t ps=>CE c t (ps.toList.map λp=>(p.1,ρ p.2))
 | .buildSlice t n ps=>bif z47 c o.dst&&zA n 0&&zA ps.size 0 then U7 c t (cy c t n (ps.toList.map λp=>(p.1,ρ p.2)))else cy c t n (ps.toList.map λp=>(p.1,ρ p.2))
 | .call cl=>match cl.callee with
  | .builtin b=>ml c b cl.argTypes.toList (cl.args.toList.map ρ)
  | .value f=>fx c (ρ f) (cl.args.toList.map ρ)
  | .invoke _ _=>bad
 | _=>bad
def qt:eE->St->T (Option D×St)
 | .val t,st=>t.bind λd=>.ret (d,st)
 | .rd k,st=>(k st).bind λd=>.ret (d,st)
 | .wr k,st=>k st
end ops
end Go.AM
namespace Go.AM
def eE.kind:eE->Nat
 | .val _=>0
 | .rd _=>1
 | .wr _=>2
def bR(ops:Array Oper)(j:Nat):Option Nat:=match ops[j]? with | some o=>o.dst | none=>none
def TM:D:=.eZ []
def gD(n:Nat):Option Nat->Bool
 | some t=>zI t n
 | none=>true
section
variable (c:Ctx)
variable [WI]
def rV(kn:Kn):Operand->Option Bool
 | .tmp t=>kn.get t
 | .const (.bool b)=>some b
 | _=>none
def HP(kn:Kn):Op->Option Bool
 | .move x | .assign x=>rV kn x
 | .pick x a b=>match rV kn x with
  | some true=>rV kn a
  | some false=>rV kn b
  | none=>none
 | _=>none
def QI(kn:Kn)(fr:Fr)(o:Oper):eE:=match o.op with
 | .pick x a b=>match rV kn x with
  | some true=>.val (.ret (bO fr a))
  | some false=>.val (.ret (bO fr b))
  | none=>wS c (bO fr) o
 | _=>wS c (bO fr) o
def HW(kn:Kn)(dst:Option Nat)(b:Option Bool):Kn:=match dst with | some t=>(t,b)::kn | none=>kn
inductive RK where
 | z (k:Nat) | rd (b:Nat) | wr (free:List Nat) | up (b:Nat) | wc (l:List Nat) | al (free:List Nat)
def RK.base:RK->Nat
 | .z k=>k
 | .rd _=>1
 | .wr _=>2
 | .up _=>2
 | .wc _=>2
 | .al _=>2
def others(n:Nat)(l:List Nat):List Nat:=(List.range n).filter λb => !(l.any (zA b))
def zei(d:Option D):Option Nat:=match d with
 | some d=>match d with
  | .ptr b _=>some b
  | .gW b _ _ _ _=>some b
  | _=>none
 | none=>none
def BB(bi:Builtin)(l:List (Option D))(st:St):RK:=match bi with
 | .append=>match l with | [some (.ms b _ _ _ _),some x]=>bif UA x then .z 2 else .up b | [some .wH,some x]=>bif UA x then .z 2 else .wr (others st.length []) | _=>.z 2
 | _=>.z 2
def vx(ρ:Operand->Option D)(st:St)(o:Oper):RK:=match(wS c ρ o).kind with
 | 1=>match o.op with
  | .load _ a=>match zei (ρ a)with | some b=>.rd b | none=>.z 1
  | _=>.z 1
 | 2=>match o.op with
  | .alloc _=>.al (others st.length [])
  | .store _ a _=>match zei (ρ a)with | some b=>.up b | none=>.z 2
  | .call cl=>match cl.callee with
   | .value f=>match ρ f,gQ (cl.args.toList.map ρ)with | some (.wj g caps),some l=>(match c.QN (eM g) (cm g l caps)with | some hx=>.wc hx | none=>.wr (c.free (eM g) (cm g l caps) st)) | _,_=>.z 2
   | .builtin bi=>BB bi (cl.args.toList.map ρ) st
   | _=>.z 2
  | _=>.z 2
 | k=>.z k
structure oX where
 fr:Fr
 kn:Kn
 st:St
 ks:List Nat      -- kinds of what has run,the last first
 bk:List RK
def lO(n:Nat)(o:Oper)(s:oX):T oX :=
 bif gD n o.dst then
  let cl:=QI c s.kn s.fr o
  (qt cl s.st).bind λr=>.ret ⟨s.fr.put o.dst r.1,HW s.kn o.dst (HP s.kn o.op),r.2,cl.kind::s.ks,vx c (bO s.fr) s.st o::s.bk⟩
 else .fail
def da(o:Oper)(s:oX):oX:=⟨s.fr.put o.dst (some TM),HW s.kn o.dst none,s.st,0::s.ks,.z 0::s.bk⟩
def oX.lT(s:oX)(t:Nat)(b:Bool):oX:={ s with kn:=(t,some b)::s.kn }
def stepG(n:Nat)(ops:Array Oper)(o:Oper)(s:oX):T oX:=match o.guard with
 | none=>lO c n o s
 | some (j,want)=>match bR ops j with
  | none=>.fail
  | some t=>match s.kn.get t with
   | some b=>bif b==want then lO c n o s else bif gD n o.dst then .ret (da o s)else .fail
   | none=>match s.fr.get t with
    | some (.qi .bool x)=>bif gD n o.dst then
      .ite x (bif want then lO c n o (s.lT t true)else .ret (da o (s.lT t true)))
          (bif want then .ret (da o (s.lT t false))else lO c n o (s.lT t false))
     else .fail
    | some (.eZ [])=>bif gD n o.dst then .ret (da o s)else .fail
    | _=>.fail
def tX(n:Nat)(ops:Array Oper):List Oper->oX->T oX
 | [],s=>.ret s
 | o::l,s=>(stepG c n ops o s).bind λs'=>tX n ops l s'
def tmpsOf(ops:Array Oper)(o:Oper):List Nat :=
 (match o.dst with | some d=>[d] | none=>[]) ++
 (match o.guard with | some (j,_)=>(match bR ops j with | some s=>[s] | none=>[]) | none=>[]) ++
 o.op.operands.toList.filterMap λ| .tmp t=>some t | _=>none
def uc(l:List Oper):List Nat->List Nat
 | acc=>match l with
  | []=>acc
  | o::r=>uc r (acc++[o.after.toList.foldl (λs e=>bif Region.binds .any e then s ||| 2 ^ e.on ||| acc.getD e.on 0 else s) 0])
def ordered(bs:List Nat)(i j:Nat):Bool:=Nat.testBit (bs.getD j 0) i
def cr(k l:Nat):Bool:=(zA k 2 && !zA l 0)||(zA l 2 && !zA k 0)
def MC{K:Type}(cl:K->K->Bool)(bs:List Nat)(xs:List (Nat×Option Nat×List Nat×K))(j:Nat)(dj:Option Nat)(tj:List Nat)(kj:K):Bool :=
 xs.all λx=>ordered bs x.1 j||(!(match x.2.1 with | some d=>tj.contains d | none=>false) && !(match dj with | some d=>x.2.2.1.contains d | none=>false) && !cl x.2.2.2 kj)
def Qk{K:Type}(cl:K->K->Bool)(ops:Array Oper)(bs:List Nat):List Oper->List K->Nat->List (Nat×Option Nat×List Nat×K)->Bool
 | [],_,_,_=>true
 | o::l,k::ks,j,xs=>let tj:=tmpsOf ops o; MC cl bs xs j o.dst tj k&&Qk cl ops bs l ks (j+1) ((j,o.dst,tj,k)::xs)
 | _,_,_,_=>false
def iO:List Oper->Nat->Bool
 | [],_=>true
 | o::l,j=>o.after.toList.all (λe => !Region.binds .any e||zI e.on j)&&iO l (j+1)
def NF(ops:Array Oper)(ks:List Nat):Bool :=
 let l:=ops.toList
 iO l 0&&Qk cr ops (uc l []) l ks 0 []
def KR(o:Oper):Bool:=(match o.op with | .alloc _=>true | _=>false)&&o.guard.isNone&&o.dst.isSome
def G9:List Oper->List Nat->List Nat
 | o::l,k::ks=>(bif KR o then 3 else k)::G9 l ks
 | _,_=>[]
def X9(k l:Nat):Bool:=bif zA k 3&&zA l 3 then false else cr (bif zA k 3 then 2 else k) (bif zA l 3 then 2 else l)
def Yv:List Oper->Nat->List Nat
 | [],_=>[]
 | o::l,i=>bif KR o then i::Yv l (i+1)else Yv l (i+1)
def Es(bs al:List Nat)(n:Nat):Bool:=(List.range n).all λj => !(al.any λp=>ordered bs p j)||al.all λp=>ordered bs p j
def NG(ops:Array Oper)(ks:List Nat):Bool :=
 let l:=ops.toList
 iO l 0&&(ks.all λk=>zJ k 2)&&Qk X9 ops (uc l []) l (G9 l ks) 0 []&&Es (uc l []) (Yv l 0) l.length
def yW:RK->RK->Bool
 | .rd b,.wr A => !(A.any (zA b))
 | .wr A,.rd b => !(A.any (zA b))
 | .rd b,.al A => !(A.any (zA b))
 | .al A,.rd b => !(A.any (zA b))
 | .rd b,.wc hx=>hx.any (zA b)
 | .wc hx,.rd b=>hx.any (zA b)
 | .wc _,.al _=>false
 | .rd b,.up a=>zA a b
 | .up a,.rd b=>zA a b
 | .up a,.up b=>zA a b
 | x,y=>cr x.base y.base
def NH(ops:Array Oper)(ks:List RK):Bool :=
 let l:=ops.toList
 iO l 0&&Qk yW ops (uc l []) l ks 0 []
def Vi(ops:Array Oper)(ks:List Nat)(bk:List RK):Bool:=NF ops ks||NG ops ks||NH ops bk
def pW(n:Nat)(ops:Array Oper)(draw:Bool)(fr:Fr)(kn:Kn)(st:St):T oX :=
 (tX c n ops ops.toList ⟨fr,kn,st,[],[]⟩).bind λs=>bif !draw||Vi ops s.ks.reverse s.bk.reverse then .ret s else .fail
def yK:List D->Nat->Fr
 | [],_=>[]
 | d::r,i=>(i,some d)::yK r (i+1)
def nU(fr:Fr)(st:St):List ResultVar->T (List D)
 | []=>.ret []
 | .tmp t::r=>match fr.get t with
  | some d=>(nU fr st r).bind λl=>.ret (d::l)
  | none=>.fail
 | .cell a t::r=>match fr.get a with
  | some (.ptr b off)=>match st[b]? with
   | some (.var d)=>bif d.G2 then .fail else match MZ c t d off with
    | some x=>(nU fr st r).bind λl=>.ret (x::l)
    | none=>.fail
   | _=>.fail
  | _=>.fail
def yv(n:Nat):D->Bool
 | .ptr b _=>zI b n
 | .eN b _=>zI b n
 | .gj b=>zI b n
 | .gW b .. => zI b n
 | .ms b .. => zI b n
 | .wj .. | .agg _ | .eZ _ | .iface .. => false
 | _=>true
def iD(n:Nat):D->Bool
 | .wj _ l=>l.all (yv n)
 | .agg l=>l.all (yv n)
 | .iface _ d=>yv n d
 | d=>yv n d
def CJ(n:Nat):de->Bool
 | .var d=>iD n d
 | _=>true
end
end Go.AM
namespace Go.AM
open Go.RowKit
inductive Rc(w:World)(ok:Nat->Prop):(τ:Ty)->den τ->List Value->Prop
 | int (k:IntKind) (n:Int):Rc w ok (.int k) n [.int k n]
 | bool (b:Bool):Rc w ok .bool b [.bool b]
 | str (s:zo):Rc w ok .str s [.string ⟨s.toArray⟩]
 | ma (e:Ty) (a:Option Addr):Rc w ok (.sl e) ([]:List (den e)) [.slice a 0 0]
 | sl (e:Ty) (l:List (den e)) (blk off cap:Nat) (f:Nat->List Value) (j9:ok blk) (jq:l.length<=cap)
   (h:∀ i (hi:i<l.length),Rc w ok e l[i] (f i))
   (hc:∀ i,i<l.length->∀ j v,(f i)[j]? = some v->w.cell? ⟨blk,off+i*e.size+j,none⟩=some v) :
   Rc w ok (.sl e) l [.slice (some ⟨blk,off,none⟩) l.length cap]
 | nil:Rc w ok .nil () []
 | cons (a b:Ty) (x:den a) (y:den b) (c1 c2:List Value) (h1:Rc w ok a x c1) (X:Rc w ok b y c2):Rc w ok (.cons a b) (x,y) (c1++c2)
 | expr (k:Int) (n:den C0) (s:zo) (l:List Expr) (cs:List Value) (h:Rc w ok K9 (k,n,s,l,()) cs):Rc w ok .expr (.mk k n s l) cs
def L6(w w':World)(ok Kt:Nat->Prop):Prop:=∀ k,ok k->Kt k/\w'.heap[k]? = w.heap[k]?
theorem mm{w w':World}{a:Addr}(h:w'.heap[a.block]? = w.heap[a.block]?):w'.cell? a=w.cell? a:=by simp[World.cell?,h]
section
variable {w w':World} {ok Kt:Nat->Prop}
theorem Rc.mono{τ:Ty}{x:den τ}{cs:List Value}(hs:L6 w w' ok Kt)(h:Rc w ok τ x cs):Rc w' Kt τ x cs:=by
 induction h with
 | int k n=>exact .int k n
 | bool b=>exact .bool b
 | str s=>exact .str s
 | ma e a=>exact .ma e a
 | sl e l blk off cap f j9 jq h hc ih=>exact .sl e l blk off cap f (hs _ j9).1 jq ih λi hi j v hv=>by rw[mm (hs _ j9).2]; exact hc i hi j v hv
 | nil=>exact .nil
 | cons a b x y c1 c2 h1 X i1 i2=>exact .cons a b x y c1 c2 i1 i2
 | expr k n s l cs h ih=>exact .expr k n s l cs ih
theorem Rc.len{τ:Ty}{x:den τ}{cs:List Value}(h:Rc w ok τ x cs):cs.length=τ.size:=by
 induction h with
 | cons a b x y c1 c2 h1 X i1 i2=>simp[Ty.size,i1,i2]
 | expr k n s l cs h ih=>simpa[Ty.size]using ih
 | _=>rfl
theorem Rc.one{τ:Ty}{x:den τ}{cs:List Value}(h:Rc w ok τ x cs):∀ v∈cs,v.oneCell'=true:=by
 induction h with
 | cons a b x y c1 c2 h1 X i1 i2=>grind
 | expr k n s l cs h ih=>exact ih
 | _=>intro v hv; simp at hv; try (subst hv; rfl)
theorem Rc.ev{k:IntKind}{n:Int}{cs:List Value}(h:Rc w ok (.int k) n cs):cs=[.int k n]:=by cases h; rfl
theorem Rc.cL{n:Bool}{cs:List Value}(h:Rc w ok .bool n cs):cs=[.bool n]:=by cases h; rfl
theorem Rc.jk{n:zo}{cs:List Value}(h:Rc w ok .str n cs):cs=[.string ⟨n.toArray⟩]:=by cases h; rfl
theorem Rc.cons_inv{a b:Ty}{x:den (.cons a b)}{cs:List Value}(h:Rc w ok (.cons a b) x cs):∃ c1 c2,cs=c1++c2/\Rc w ok a x.1 c1/\Rc w ok b x.2 c2:=by
 cases h with | cons _ _ x y c1 c2 h1 X=>exact⟨c1,c2,rfl,h1,X⟩
theorem Rc.wh{x:den .nil}{cs:List Value}(h:Rc w ok .nil x cs):cs=[]:=by cases h; rfl
theorem Rc.F4{x:Expr}{cs:List Value}(h:Rc w ok .expr x cs):Rc w ok K9 x.z0V cs:=by cases h with | expr k n s l cs h=>exact h
theorem Rc.tY{e:Ty}{l:List (den e)}{cs:List Value}(h:Rc w ok (.sl e) l cs):(l=[]/\∃ a,cs=[.slice a 0 0]) \/
  ∃ (blk off cap:Nat) (f:Nat->List Value),cs=[.slice (some ⟨blk,off,none⟩) l.length cap]/\ok blk/\l.length<=cap/\(∀ i (hi:i<l.length),Rc w ok e l[i] (f i)) /\
   (∀ i,i<l.length->∀ j v,(f i)[j]? = some v->w.cell? ⟨blk,off+i*e.size+j,none⟩=some v):=by
 cases h with
 | ma _ a=>simp
 | sl _ _ blk off cap f j9 jq h hc=>exact .inr ⟨blk,off,cap,f,rfl,j9,jq,h,hc⟩
end
def pk(τ:Ty)(cs:List Value):Value:=if τ.isAgg then .agg cs.toArray else cs.headD undef
structure KS where
 w:World
 ok:Nat->Prop
 ph:List (Option (Nat×Nat))
 st:St
def No(ph:List (Option (Nat×Nat)))(b zpg:Nat)(e:Ty)(off len:Nat)(v:Value):Prop :=
 off+len<=zpg/\((len=0/\off=0/\v=.slice none 0 0/\ph[b]? = some none) \/
  ∃ (blk n o cap:Nat),ph[b]? = some (some (blk,n))/\v=.slice (some ⟨blk,o,none⟩) len cap/\len<=cap/\(off+cap)*e.size<=n/\(cap=0\/o=off*e.size))
def Old(st:St)(b vk:Nat):Prop:=st[b]? = some .dead\/∃ (v0:Nat) (e0:Ty) (VU:List (den e0)),st[b]? = some (.arr v0 e0 VU)/\vk<=v0
def D.one:D->Bool
 | .qi τ _ => !τ.isAgg
 | .agg _ | .eZ _=>false
 | _=>true
def QR(f:Nat)(vs:List Value):Value:=bif zJ 1000000 f then .func (.func (f % 1000000)) vs.toArray #[]else .func (.func f) #[] vs.toArray
theorem CI{f:Nat}(h:zI f 1000000=true)(vs:List Value):QR f vs=.func (.func f) #[] vs.toArray:=by
 have:zJ 1000000 f=false:=by
  cases J:zJ 1000000 f with
  | false=>rfl
  | true=>have h1:=zK J; have X:=zK h; omega
 unfold QR; rw[this]; rfl
theorem Lu{f:Nat}(h:zI f 1000000=true)(vs:List Value):QR (f+1000000) vs=.func (.func f) vs.toArray #[]:=by
 have h1:zJ 1000000 (f+1000000)=true:=Nat.ble_eq_true_of_le (Z)
 have X:=zK h
 have h3:(f+1000000) % 1000000=f:=Z
 unfold QR; rw[h1,h3]; rfl
theorem YJ(f:Nat)(vs:List Value):(QR f vs).cells.toList=[QR f vs]:=by
 unfold QR; cases zJ 1000000 f<;>rfl
theorem z0A(f:Nat)(vs:List Value):(QR f vs).oneCell'=true:=by
 unfold QR; cases zJ 1000000 f<;>rfl
theorem YI(f:Nat)(vs:List Value):∃ g a b,QR f vs=.func (.func g) a b:=by
 unfold QR; cases zJ 1000000 f<;>exact⟨_,_,_,rfl⟩
inductive RD(O:KS):D->Value->Prop
 | qi (τ:Ty) (x:den τ) (cs:List Value) (h:Rc O.w O.ok τ x cs):RD O (.qi τ x) (pk τ cs)
 | vD (e:Ty) (a:Option Addr):RD O (.tight e ([]:List (den e)) false) (.slice a 0 0)
 | tight (e:Ty) (l:List (den e)) (ne:Bool) (blk off:Nat) (f:Nat->List Value) (kB:ne=true->l≠[]) (j9:O.ok blk)
   (h:∀ i (hi:i<l.length),Rc O.w O.ok e l[i] (f i))
   (hc:∀ i,i<l.length->∀ j v,(f i)[j]? = some v->O.w.cell? ⟨blk,off+i*e.size+j,none⟩=some v) :
   RD O (.tight e l ne) (.slice (some ⟨blk,off,none⟩) l.length l.length)
 | sT (e:Ty) (l:List (den e)) (b:Bool) (v:Value) (h:Rc O.w O.ok (.sl e) l [v]) (ht:b=true->∃ blk off cap,v=.slice (some ⟨blk,off,none⟩) l.length cap/\(l=[]->cap=0)) (hf:b=false->v=.slice none 0 0):RD O (.sT e l b) v
 | wH:RD O .wH (.slice none 0 0)
 | br:RD O .br (.pointer none)
 | vb:RD O .vb .nilIface
 | gF:RD O .gF .nilFunc
 | uX:RD O .uX (.map none)
 | V6 (v:Value) (h:v.oneCell'=true):RD O .V6 v
 | nw (T:Nat):RD O (.nw T) (.pointer none)
 | gj (b blk n:Nat) (d:D) (V:O.st[b]? = some (.var d)) (h:O.ph[b]? = some (some (blk,n))):RD O (.gj b) (.map (some blk))
 | nS (b T:Nat) (d:D) (V:O.st[b]? = some (.var d)):RD O (.eN b T) (.pointer none)
 | nT (b T blk n:Nat) (d:D) (V:O.st[b]? = some (.var d)) (h:O.ph[b]? = some (some (blk,n))):RD O (.eN b T) (.pointer (some ⟨blk,0,none⟩))
 | ptr (b off blk n:Nat) (d:D) (V:O.st[b]? = some (.var d)) (h:O.ph[b]? = some (some (blk,n))):RD O (.ptr b off) (.pointer (some ⟨blk,off,none⟩))
 | vE (τ:Ty) (x:den τ) (cs:List Value) (blk off:Nat) (j9:O.ok blk) (h:Rc O.w O.ok τ x cs)
   (hc:∀ j v,cs[j]? = some v->O.w.cell? ⟨blk,off+j,none⟩=some v):RD O (.vE τ x) (.pointer (some ⟨blk,off,none⟩))
 | gW (b vk:Nat) (e:Ty) (idx off blk o:Nat) (J:Old O.st b vk)
   (h:∀ xs:List (den e),O.st[b]? = some (.arr vk e xs)->idx<xs.length->∃ n:Nat,O.ph[b]? = some (some (blk,n))/\o=idx*e.size+off) :
   RD O (.gW b vk e idx off) (.pointer (some ⟨blk,o,none⟩))
 | ms (b vk:Nat) (e:Ty) (off len cap:Nat) (a:Option Addr) (J:Old O.st b vk) (jq:len<=cap) (ha:a=none->cap=0) (WO:∀ p,a=some p->p.spot=none)
   (h:∀ xs:List (den e),O.st[b]? = some (.arr vk e xs)->No O.ph b xs.length e off len (.slice a len cap)):RD O (.ms b vk e off len) (.slice a len cap)
 | wj (f:Nat) (l:List D) (vs:List Value) (B:l.length=vs.length) (h:∀ i (h1:i<l.length) (X:i<vs.length),RD O l[i] vs[i]):RD O (.wj f l) (QR f vs)
 | agg (l:List D) (vs:List Value) (B:l.length=vs.length) (ho:∀ d∈l,d.one=true) (h:∀ i (h1:i<l.length) (X:i<vs.length),RD O l[i] vs[i]):RD O (.agg l) (.agg vs.toArray)
 | eZ (l:List D) (vs:List Value) (B:l.length=vs.length) (h:∀ i (h1:i<l.length) (X:i<vs.length),RD O l[i] vs[i]):RD O (.eZ l) (.tuple vs.toArray)
 | iface (t:Nat) (d:D) (v:Value) (h:RD O d v):RD O (.iface t d) (.iface t v)
def wQ(O:KS)(l:List D)(vs:List Value):Prop:=l.length=vs.length/\∀ i (h1:i<l.length) (X:i<vs.length),RD O l[i] vs[i]
def z0c(o:Obj)(l:List Int):Prop:=∀ (P:Program) (k e:TypeId),P.underlying k=some (.int .i64)->P.underlying e=some .bool->∀ (w:World) (b:Nat),w.heap[b]? = some o ->
 ∃ D:DataW Unit,w.ownsMap P k (plainElem P e) b l.length D/\Go.Maps.IsMap D/\∀ n,(Lit.int .i64 n).wf=true->D.atKey (.int .i64 n) (.lit (.bool false))=.lit (.bool (l.contains n))
def Cells(O:KS)(b:Nat)(d:D):Prop:=∃ (blk n:Nat) (cs:Array Value) (t:TypeId),O.ph[b]? = some (some (blk,n))/\O.w.heap[blk]? = some (.cells cs t (0,0))/\cs.size=n/\wQ O (wb d) cs.toList/\(∀ x∈wb d,x.one=true)/\∀ T,d.typed=some T->t=T
def Maps(O:KS)(b:Nat)(l:List Int):Prop:=∃ (blk:Nat) (o:Obj),O.ph[b]? = some (some (blk,0))/\O.w.heap[blk]? = some o/\z0c o l
def yf(O:KS)(b:Nat)(d:D):Prop:=match d with
 | .BU l=>Maps O b l
 | d=>Cells O b d
theorem yf.elim{O:KS}{b:Nat}{d:D}{p:Prop}(h:yf O b d)(h1:d.G2=false->Cells O b d->p)(X:∀ l,d=.BU l->Maps O b l->p):p:=by
 cases d<;>first | exact X _ rfl h | exact h1 rfl h
theorem yf.cells{O:KS}{b:Nat}{d:D}(h:yf O b d)(hm:d.G2=false):Cells O b d:=h.elim (λ_ h=>h) λl e _=>by subst e; cases hm
theorem yf.mk{O:KS}{b:Nat}{d:D}(hm:d.G2=false)(h:Cells O b d):yf O b d:=by
 cases d<;>first | exact h | cases hm
def pX[WI](O:KS)(b:Nat):de->Prop
 | .dead=>True
 | .var d=>yf O b d
 | .arr _ e xs=>0<e.size/\((xs=[]/\O.ph[b]? = some none) \/
   ∃ (blk n:Nat) (cs:Array Value) (t:TypeId),O.ph[b]? = some (some (blk,n))/\O.w.heap[blk]? = some (.cells cs t (0,0))/\cs.size=n/\xs.length*e.size<=n/\zbn e t /\
    ∃ f:Nat->List Value,∀ i (hi:i<xs.length),Rc O.w O.ok e xs[i] (f i)/\∀ j v,(f i)[j]? = some v->cs[i*e.size+j]? = some v)
class gB extends WI where
 tab:List (Nat×(Obj->Prop))
def V9[gB](w:World)(ok:Nat->Prop):Prop:=∀ x∈gB.tab,ok x.1/\∃ o,w.heap[x.1]? = some o/\x.2 o
theorem V9.mono[gB]{w w':World}{ok Kt:Nat->Prop}(h:V9 w ok)(hs:L6 w w' ok Kt):V9 w' Kt:=λx U=>by
 obtain⟨h1,o,X,h3⟩:=h x U
 obtain⟨g1,g2⟩:=hs _ h1
 grind
structure Inv[gB](O:KS):Prop where
 len:O.ph.length=O.st.length
 cq:∀ k,O.ok k->k<O.w.heap.size
 apart:∀ (b blk n:Nat),O.ph[b]? = some (some (blk,n))->blk<O.w.heap.size/\¬ O.ok blk
 inj:∀ (b b' blk n n':Nat),O.ph[b]? = some (some (blk,n))->O.ph[b']? = some (some (blk,n'))->b=b'
 blk:∀ (b:Nat) (x:de),O.st[b]? = some x->pX O b x
 gl:V9 O.w O.ok
structure Ext(O E:KS):Prop where
 os:E.w.os=O.w.os
 tape:E.w.tape=O.w.tape
 output:E.w.output=O.w.output
 size:O.w.heap.size<=E.w.heap.size
 same:L6 O.w E.w O.ok E.ok
 fresh:∀ k,E.ok k->O.ok k\/O.w.heap.size<=k\/∃ b n:Nat,O.ph[b]? = some (some (k,n))
 phs:∀ (b blk n:Nat),E.ph[b]? = some (some (blk,n))->O.ph[b]? = some (some (blk,n))\/O.w.heap.size<=blk
 var:∀ (b:Nat) (d:D),O.st[b]? = some (.var d)->(∃ d',E.st[b]? = some (.var d'))/\E.ph[b]? = O.ph[b]?
 arr:∀ (b v0:Nat) (e:Ty) (VU:List (den e)),O.st[b]? = some (.arr v0 e VU)->E.st[b]? = some .dead \/
  ∃ (v1:Nat) (xs1:List (den e)),E.st[b]? = some (.arr v1 e xs1)/\v0<=v1/\(v0=v1->E.ph[b]? = O.ph[b]? /\ VU.length=xs1.length)
 dead:∀ (b:Nat),O.st[b]? = some .dead->E.st[b]? = some .dead
 Iq:O.st.length<=E.st.length
 frame:∀ k,k<O.w.heap.size->(∀ (b n:Nat),O.ph[b]? ≠ some (some (k,n)))->E.w.heap[k]? = O.w.heap[k]?
theorem Ext.refl(O:KS):Ext O O :=
 ⟨rfl,rfl,rfl,zF _,λ_ h=>⟨h,rfl⟩,λ_ h=>.inl h,λ_ _ _ h=>.inl h,λ_ d h=>⟨⟨d,h⟩,rfl⟩,
  λ_ vk _ xs h=>.inr ⟨vk,xs,h,zF _,λ_=>⟨rfl,rfl⟩⟩,λ_ h=>h,zF _,λ_ _ _=>rfl⟩
theorem Ext.trans{a b c:KS}(h:Ext a b)(k:Ext b c):Ext a c:=by
 refine⟨k.os.trans h.os,k.tape.trans h.tape,k.output.trans h.output,zS h.size k.size,?_,?_,?_,?_,?_,λb J=>k.dead b (h.dead b J),zS h.Iq k.Iq,?_⟩
 ·intro i hi
  obtain⟨h1,X⟩:=h.same i hi
  obtain⟨h3,h4⟩:=k.same i h1
  grind
 ·intro i hi
  rcases k.fresh i hi with h1 | h1 | ⟨b,n,h1⟩
  ·exact h.fresh i h1
  ·exact .inr (.inl (zS h.size h1))
  ·rcases h.phs b i n h1 with X | X
   ·grind
   ·grind
 ·intro i blk n hi
  rcases k.phs i blk n hi with h1 | h1
  ·exact h.phs i blk n h1
  ·exact .inr (zS h.size h1)
 ·intro i d hi
  obtain⟨⟨d',dM⟩,hp⟩:=h.var i d hi
  obtain⟨ztw,hp'⟩:=k.var i d' dM
  grind
 ·intro i v0 e VU hi
  rcases h.arr i v0 e VU hi with h1 | ⟨v1,x1,h1,X,h3⟩
  ·exact .inl (k.dead i h1)
  ·rcases k.arr i v1 e x1 h1 with g1 | ⟨v2,x2,g1,g2,g3⟩
   ·grind
   ·grind
 ·intro i hi hn
  refine(k.frame i (Nat.lt_of_lt_of_le hi h.size) λb n J => ?_).trans (h.frame i hi hn)
  rcases h.phs b i n J with h1 | h1
  ·grind
  ·omega
theorem Ext.old{O E:KS}(x:Ext O E){b vk:Nat}(h:Old O.st b vk):Old E.st b vk:=by
 rcases h with h | ⟨v0,e0,VU,h,hv⟩
 ·exact .inl (x.dead b h)
 ·rcases x.arr b v0 e0 VU h with h1 | ⟨v1,x1,h1,X,_⟩
  ·exact .inl h1
  ·exact .inr ⟨v1,e0,x1,h1,zS hv X⟩
theorem Ext.back{O E:KS}(x:Ext O E){b vk:Nat}(h:Old O.st b vk){e:Ty}{xs:List (den e)}(U:E.st[b]? = some (.arr vk e xs)) :
  ∃ VU:List (den e),O.st[b]? = some (.arr vk e VU)/\E.ph[b]? = O.ph[b]? /\ VU.length=xs.length:=by
 rcases h with h | ⟨v0,e0,VU,h,hv⟩
 ·have:=x.dead b h; rw[U]at this; cases this
 ·rcases x.arr b v0 e0 VU h with h1 | ⟨v1,x1,h1,X,h3⟩
  ·grind
  ·grind
theorem RD.mono{O E:KS}(x:Ext O E){d:D}{v:Value}(h:RD O d v):RD E d v:=by
 induction h with
 | qi τ y cs h=>exact .qi τ y cs (h.mono x.same)
 | vD e a=>exact .vD e a
 | tight e l ne blk off f kB j9 h hc=>exact .tight e l ne blk off f kB (x.same _ j9).1 (λi hi=>(h i hi).mono x.same) λi hi j v hv=>by rw[mm (x.same _ j9).2]; exact hc i hi j v hv
 | sT e l b v h ht hf=>exact .sT e l b v (h.mono x.same) ht hf
 | wH=>exact .wH
 | br=>exact .br
 | vb=>exact .vb
 | gF=>exact .gF
 | uX=>exact .uX
 | V6 v h=>exact .V6 v h
 | nw T=>exact .nw T
 | nS b T d V =>
  obtain⟨⟨d',dM⟩,hp⟩:=x.var b d V
  exact .nS b T d' dM
 | gj b blk n d V h =>
  obtain⟨⟨d',dM⟩,hp⟩:=x.var b d V
  exact .gj b blk n d' dM (hp.trans h)
 | nT b T blk n d V h =>
  obtain⟨⟨d',dM⟩,hp⟩:=x.var b d V
  exact .nT b T blk n d' dM (hp.trans h)
 | ptr b off blk n d V h =>
  obtain⟨⟨d',dM⟩,hp⟩:=x.var b d V
  exact .ptr b off blk n d' dM (hp.trans h)
 | vE τ y cs blk off j9 h hc=>exact .vE τ y cs blk off (x.same _ j9).1 (h.mono x.same) λj v hv=>by rw[mm (x.same _ j9).2]; exact hc j v hv
 | gW b vk e idx off blk o J h =>
  refine .gW b vk e idx off blk o (x.old J) λxs U hi => ?_
  obtain⟨VU,h1,X,h3⟩:=x.back J U
  grind
 | ms b vk e off len cap a J jq ha WO h =>
  refine .ms b vk e off len cap a (x.old J) jq ha WO λxs U => ?_
  obtain⟨VU,h1,X,h3⟩:=x.back J U
  have:=h VU h1
  unfold No at this ⊢
  grind
 | wj f l vs B h ih=>exact .wj f l vs B ih
 | agg l vs B ho h ih=>exact .agg l vs B ho ih
 | eZ l vs B h ih=>exact .eZ l vs B ih
 | iface t d v h ih=>exact .iface t d v ih
end Go.AM
namespace Go.AM
section
variable {α β:Type}
theorem T.xg{t:T α}{k:α->T β}{b:β}:(t.bind k).leads b↔∃ a,t.leads a/\(k a).leads b:=by
 induction t with
 | ret a=>simp[T.bind,T.leads]
 | ite c t e i1 i2 =>
  simp only[T.bind,T.leads]
  grind
 | zl p t ih =>
  simp only[T.bind,T.leads]; constructor
  ·grind
  ·grind
 | fail=>simp[T.bind,T.leads]
theorem T.IG{t:T α}{Q:α->Prop}(h:t.wp Q):∃ a,t.leads a/\Q a:=by
 induction t with
 | ret a=>exact⟨a,rfl,h⟩
 | ite c t e i1 i2 =>
  cases c with
  | true=>obtain⟨a,x,y⟩:=i1 (h.1 rfl); exact⟨a,.inl ⟨rfl,x⟩,y⟩
  | false=>obtain⟨a,x,y⟩:=i2 (h.2 rfl); exact⟨a,.inr ⟨rfl,x⟩,y⟩
 | zl p t ih=>obtain⟨a,x,y⟩:=ih h.2; exact⟨a,⟨h.1,x⟩,y⟩
 | fail=>exact h.elim
theorem T.KE{t:T α}{Q:α->Prop}{a:α}(h:t.leads a)(hq:Q a):t.wp Q:=by
 induction t with
 | ret x=>cases h; exact hq
 | ite c t e i1 i2 =>
  rcases h with⟨h1,X⟩ | ⟨h1,X⟩
  ·exact⟨λ_=>i1 X,λk=>absurd (h1.symm.trans k) (qu)⟩
  ·exact⟨λk=>absurd (h1.symm.trans k) (qu),λ_=>i2 X⟩
 | zl p t ih=>exact⟨h.1,ih h.2⟩
 | fail=>exact h.elim
theorem T.yO{o:Option α}{a:α}:(T.GB o).leads a↔o=some a:=by cases o<;>simp[T.GB,T.leads]
end
section
variable {O:KS}
theorem wQ.nil:wQ O [] []:=⟨rfl,λi h _=>absurd h (Nat.not_lt_zero i)⟩
theorem wQ.cons{d:D}{v:Value}{l:List D}{vs:List Value}(h:RD O d v)(t:wQ O l vs):wQ O (d::l) (v::vs) :=
 ⟨by simp[t.1],λi h1 X=>by cases i with | zero=>exact h | succ i=>exact t.2 i (wa) (wa)⟩
theorem wQ.cons_inv{d:D}{l:List D}{vs:List Value}(h:wQ O (d::l) vs):∃ v r,vs=v::r/\RD O d v/\wQ O l r:=by
 obtain⟨B,h⟩:=h
 cases vs with
 | nil=>simp at B
 | cons v r=>exact⟨v,r,rfl,h 0 (qu) (qu),wa,λi h1 X=>h (i+1) (wa) (wa)⟩
theorem wQ.wh{vs:List Value}(h:wQ O [] vs):vs=[]:=List.eq_nil_of_length_eq_zero h.1.symm
theorem wQ.append{l l':List D}{vs vs':List Value}(h:wQ O l vs)(h':wQ O l' vs'):wQ O (l++l') (vs++vs'):=by
 induction l generalizing vs with
 | nil=>rw[h.wh]; exact h'
 | cons d l ih=>obtain⟨v,r,rfl,h1,X⟩:=h.cons_inv; exact .cons h1 (ih X)
theorem wQ.L9{l l':List D}{vs:List Value}(h:wQ O (l++l') vs):∃ v1 v2,vs=v1++v2/\wQ O l v1/\wQ O l' v2:=by
 induction l generalizing vs with
 | nil=>exact⟨[],vs,rfl,.nil,h⟩
 | cons d l ih =>
  obtain⟨v,r,rfl,h1,X⟩:=h.cons_inv
  obtain⟨v1,v2,rfl,h3,h4⟩:=ih X
  exact⟨v::v1,v2,rfl,.cons h1 h3,h4⟩
theorem wQ.get{l:List D}{vs:List Value}(h:wQ O l vs){i:Nat}{d:D}(V:l[i]? = some d):∃ v,vs[i]? = some v/\RD O d v:=by
 obtain⟨wO,he⟩:=List.getElem?_eq_some_iff.1 V
 have X:i<vs.length:=h.1▸wO
 exact⟨vs[i],zP X,he▸h.2 i wO X⟩
theorem wQ.take{l:List D}{vs:List Value}(h:wQ O l vs)(n:Nat):wQ O (l.take n) (vs.take n) :=
 ⟨by simp[h.1],λi h1 X=>by simp; exact h.2 i (wa) (wa)⟩
theorem wQ.drop{l:List D}{vs:List Value}(h:wQ O l vs)(n:Nat):wQ O (l.drop n) (vs.drop n) :=
 ⟨by simp[h.1],λi h1 X=>by simp; exact h.2 (n+i) (wa) (wa)⟩
theorem wQ.mono{E:KS}(x:Ext O E){l:List D}{vs:List Value}(h:wQ O l vs):wQ E l vs:=⟨h.1,λi h1 X=>(h.2 i h1 X).mono x⟩
theorem J0{τ:Ty}{cs:List Value}(h:cs.length=τ.size)(Q8:∀ v∈cs,v.oneCell'=true):(pk τ cs).cells.toList=cs:=by
 unfold pk
 split
 ·rfl
 ·rename_i hn
  have hs:τ.size=1:=by cases τ<;>simp[Ty.isAgg]at hn<;>rfl
  match cs,h,Q8 with
  | [v],_,Q8 =>
   have:=Q8 v (qu)
   cases v<;>first | rfl | cases this
  | [],h,_=>grind
  | _::_::_,h,_=>grind
theorem GL{τ:Ty}(h:τ.isAgg=false)(v:Value):pk τ [v]=v:=by simp[pk,h]
theorem Ku{τ:Ty}(h:τ.isAgg=false):τ.size=1:=by cases τ<;>simp[Ty.isAgg]at h<;>rfl
theorem Rc.single{w:World}{ok:Nat->Prop}{τ:Ty}{x:den τ}{cs:List Value}(h:Rc w ok τ x cs)(ht:τ.isAgg=false):∃ v,cs=[v]:=by
 have:=h.len
 rw[Ku ht]at this
 match cs,this with
 | [v],_=>simp
theorem RD.Zk{τ:Ty}{x:den τ}{v:Value}(ht:τ.isAgg=false)(h:Rc O.w O.ok τ x [v]):RD O (.qi τ x) v:=by
 have:=RD.qi τ x [v] h
 rwa [GL ht]at this
theorem RD.dq{τ:Ty}{x:den τ}{v:Value}(h:RD O (.qi τ x) v):∃ cs,Rc O.w O.ok τ x cs/\v=pk τ cs:=by
 cases h with | qi _ _ cs h=>exact⟨cs,h,rfl⟩
theorem RD.jQ{τ:Ty}{x:den τ}{v:Value}(h:RD O (.qi τ x) v)(ht:τ.isAgg=false):Rc O.w O.ok τ x [v]:=by
 obtain⟨cs,hc,rfl⟩:=RD.dq h
 obtain⟨u,rfl⟩:=hc.single ht
 rwa [GL ht]
theorem RD.int{k:IntKind}{n:Int}:RD O (.qi (.int k) n) (.int k n):=RD.Zk rfl (.int k n)
theorem RD.bool{b:Bool}:RD O (.qi .bool b) (.bool b):=RD.Zk rfl (.bool b)
theorem RD.str{s:zo}:RD O (.qi .str s) (.string ⟨s.toArray⟩):=RD.Zk rfl (.str s)
theorem RD.ev{k:IntKind}{n:Int}{v:Value}(h:RD O (.qi (.int k) n) v):v=.int k n:=by have:=(h.jQ rfl).ev; simpa using this
theorem RD.cL{b:Bool}{v:Value}(h:RD O (.qi .bool b) v):v=.bool b:=by have:=(h.jQ rfl).cL; simpa using this
theorem RD.jk{s:zo}{v:Value}(h:RD O (.qi .str s) v):v=.string ⟨s.toArray⟩:=by have:=(h.jQ rfl).jk; simpa using this
theorem wQ.one{d:D}{v:Value}(h:RD O d v):wQ O [d] [v]:=.cons h .nil
theorem Xo{τ:Ty}{x:den τ}{cs:List Value}(h:Rc O.w O.ok τ x cs):wQ O (flat τ x) cs:=by
 induction τ generalizing cs with
 | int k=>obtain⟨v,rfl⟩:=h.single rfl; exact .one (.Zk rfl h)
 | bool=>obtain⟨v,rfl⟩:=h.single rfl; exact .one (.Zk rfl h)
 | str=>obtain⟨v,rfl⟩:=h.single rfl; exact .one (.Zk rfl h)
 | sl e _=>obtain⟨v,rfl⟩:=h.single rfl; exact .one (.Zk rfl h)
 | nil=>rw[h.wh]; exact .nil
 | cons a b i1 i2=>obtain⟨c1,c2,rfl,h1,X⟩:=h.cons_inv; exact(i1 h1).append (i2 X)
 | expr =>
  obtain⟨c1,r1,rfl,h1,t1⟩:=h.F4.cons_inv
  obtain⟨c2,r2,rfl,X,t2⟩:=t1.cons_inv
  obtain⟨c3,r3,rfl,h3,t3⟩:=t2.cons_inv
  obtain⟨c4,r4,rfl,h4,t4⟩:=t3.cons_inv
  have e4:=t4.wh
  subst e4
  obtain⟨d1,s1,rfl,g1,u1⟩:=X.cons_inv
  obtain⟨d2,s2,rfl,g2,u2⟩:=u1.cons_inv
  obtain⟨d3,s3,rfl,g3,u3⟩:=u2.cons_inv
  have e5:=u3.wh
  subst e5
  obtain⟨v1,rfl⟩:=h1.single rfl
  obtain⟨v3,rfl⟩:=h3.single rfl
  obtain⟨v4,rfl⟩:=h4.single rfl
  obtain⟨u1,rfl⟩:=g1.single rfl
  obtain⟨u2,rfl⟩:=g2.single rfl
  obtain⟨u3,rfl⟩:=g3.single rfl
  exact .cons (.Zk rfl h1) (.cons (.Zk rfl g1) (.cons (.Zk rfl g2) (.cons (.Zk rfl g3) (.cons (.Zk rfl h3) (.cons (.Zk rfl h4) .nil)))))
theorem rR:∀ (τ:Ty) (x:den τ),∀ d∈flat τ x,d.one=true
 | .int _,_,d,h | .bool,_,d,h | .str,_,d,h | .sl _,_,d,h=>by simp[flat]at h; subst h; rfl
 | .nil,_,d,h=>by simp[flat]at h
 | .cons a b,x,d,h=>by
  simp only[flat,List.mem_append]at h
  rcases h with h | h
  ·exact rR a x.1 d h
  ·exact rR b x.2 d h
 | .expr,x,d,h=>by simp[flat]at h; rcases h with rfl | rfl | rfl | rfl | rfl | rfl<;>rfl
theorem Ur:∀ (τ:Ty) (x:den τ),(flat τ x).length=τ.size
 | .int _,_ | .bool,_ | .str,_ | .sl _,_ | .nil,_ | .expr,_=>rfl
 | .cons a b,x=>by simp[flat,Ty.size,Ur a,Ur b]
theorem Wq{v:Value}(h:v.oneCell'=true):v.cells = #[v]:=by
 cases v<;>first | rfl | cases h
theorem cQ{d:D}{v:Value}(h:RD O d v)(ht:d.bT=false):wQ O (wb d) v.cells.toList:=by
 cases h with
 | qi τ x cs h=>rw[J0 h.len h.one]; exact Xo h
 | agg l vs B ho h=>exact⟨by simpa[qB,wb]using B,λi h1 X=>by simp at X ⊢; exact h i h1 X⟩
 | eZ=>cases ht
 | vD e a=>exact .one (.vD e a)
 | tight e l ne blk off f kB j9 h hc=>exact .one (.tight e l ne blk off f kB j9 h hc)
 | sT e l b v h ht hf=>rw[Wq (h.one v (qu))]; exact .one (.sT e l b v h ht hf)
 | wH=>exact .one .wH
 | br=>exact .one .br
 | vb=>exact .one .vb
 | gF=>exact .one .gF
 | uX=>exact .one .uX
 | V6 v h=>rw[Wq h]; exact .one (.V6 v h)
 | nw T=>exact .one (.nw T)
 | gj b blk n d V h=>exact .one (.gj b blk n d V h)
 | nS b T d V=>exact .one (.nS b T d V)
 | nT b T blk n d V h=>exact .one (.nT b T blk n d V h)
 | ptr b off blk n d V h=>exact .one (.ptr b off blk n d V h)
 | vE τ x cs blk off j9 h hc=>exact .one (.vE τ x cs blk off j9 h hc)
 | gW b vk e idx off blk o J h=>exact .one (.gW b vk e idx off blk o J h)
 | ms b vk e off len cap a J jq ha WO h=>exact .one (.ms b vk e off len cap a J jq ha WO h)
 | wj f l vs B h=>rw[YJ]; exact .one (.wj f l vs B h)
 | iface t d v h=>exact .one (.iface t d v h)
theorem cP{d:D}{v:Value}(h:RD O d v):∀ x∈wb d,x.one=true:=by
 cases h with
 | qi τ x cs h=>exact rR τ x
 | agg l vs B ho h=>exact ho
 | eZ=>nofun
 | _=>intro x U; simp[wb]at U; subst U; rfl
theorem RD.Yh{d:D}{v:Value}(h:RD O d v)(ho:d.one=true):v.oneCell'=true:=by
 cases h with
 | qi τ x cs h =>
  have ht:τ.isAgg=false:=by simpa[D.one]using ho
  obtain⟨v,rfl⟩:=h.single ht
  rw[GL ht]
  exact h.one v (qu)
 | agg=>cases ho
 | eZ=>cases ho
 | V6 v h=>exact h
 | wj f l vs=>exact z0A f vs
 | sT e l b v h=>exact h.one v (qu)
 | _=>rfl
theorem wi{a b:Ty}{x:den a}{y:den b}(h:(jY x:Option (den b))=some y):∃ e:a=b,y=e▸x:=by
 unfold jY at h
 grind
theorem eS{τ:Ty}{d:D}{v:Value}{x:den τ}(h:RD O d v)(U:rb τ d=some x)(ht:τ.isAgg=false):Rc O.w O.ok τ x [v]:=by
 cases h with
 | qi σ y cs h =>
  obtain⟨rfl,rfl⟩:=wi U
  obtain⟨u,rfl⟩:=h.single ht
  rwa [GL ht]
 | vD e a=>obtain⟨rfl,rfl⟩:=wi U; exact .ma e a
 | tight e l ne blk off f kB j9 h hc=>obtain⟨rfl,rfl⟩:=wi U; exact .sl e _ blk off _ f j9 (zF _) h hc
 | sT e l b v h ht hf=>obtain⟨rfl,rfl⟩:=wi U; exact h
 | wH =>
  cases τ with
  | sl e=>simp[rb]at U; subst U; exact .ma e none
  | _=>simp[rb]at U
 | _=>simp[rb]at U
theorem WH:∀ (τ:Ty) {ds:List D} {vs:List Value} {x:den τ} {r:List D},wQ O ds vs->dc τ ds=some (x,r) ->
  ∃ c1 c2,vs=c1++c2/\Rc O.w O.ok τ x c1/\wQ O r c2
 | .int k,[],_,_,_,_,he | .bool,[],_,_,_,_,he | .str,[],_,_,_,_,he | .sl e,[],_,_,_,_,he | .expr,[],_,_,_,_,he=>by simp[dc]at he
 | .int k,d::r,vs,x,r',h,he=>by
  simp only[dc]at he
  split at he
  ·rename_i y hy; cases he; obtain⟨v,u,rfl,h1,X⟩:=h.cons_inv; exact⟨[v],u,rfl,eS h1 hy rfl,X⟩
  ·cases he
 | .bool,d::r,vs,x,r',h,he=>by
  simp only[dc]at he
  split at he
  ·rename_i y hy; cases he; obtain⟨v,u,rfl,h1,X⟩:=h.cons_inv; exact⟨[v],u,rfl,eS h1 hy rfl,X⟩
  ·cases he
 | .str,d::r,vs,x,r',h,he=>by
  simp only[dc]at he
  split at he
  ·rename_i y hy; cases he; obtain⟨v,u,rfl,h1,X⟩:=h.cons_inv; exact⟨[v],u,rfl,eS h1 hy rfl,X⟩
  ·cases he
 | .sl e,d::r,vs,x,r',h,he=>by
  simp only[dc]at he
  split at he
  ·rename_i y hy; cases he; obtain⟨v,u,rfl,h1,X⟩:=h.cons_inv; exact⟨[v],u,rfl,eS h1 hy rfl,X⟩
  ·cases he
 | .nil,ds,vs,x,r,h,he=>by simp only[dc]at he; cases he; exact⟨[],vs,rfl,.nil,h⟩
 | .cons a b,ds,vs,x,r,h,he=>by
  simp only[dc]at he
  split at he
  ·rename_i y r' hy
   split at he
   ·rename_i z r'' hz
    cases he
    obtain⟨c1,c2,rfl,h1,X⟩:=WH a h hy
    obtain⟨c3,c4,rfl,h3,h4⟩:=WH b X hz
    exact⟨c1++c3,c4,qu,.cons a b y z c1 c3 h1 h3,h4⟩
   ·cases he
  ·cases he
 | .expr,d::r,vs,x,r',h,he=>by
  simp only[dc]at he
  split at he
  ·cases he
  ·rename_i k hk
   split at he
   ·rename_i d1 d2 d3 d4 d5 r0
    split at he
    ·rename_i a n m s l ha hn hm hs B
     cases he
     obtain⟨v,u,rfl,h0,t0⟩:=h.cons_inv
     obtain⟨v1,u1,rfl,h1,t1⟩:=t0.cons_inv
     obtain⟨v2,u2,rfl,X,t2⟩:=t1.cons_inv
     obtain⟨v3,u3,rfl,h3,t3⟩:=t2.cons_inv
     obtain⟨v4,u4,rfl,h4,t4⟩:=t3.cons_inv
     obtain⟨v5,u5,rfl,h5,t5⟩:=t4.cons_inv
     refine⟨[v]++(([v1]++([v2]++([v3]++[])))++([v4]++([v5]++[]))),u5,qu,.expr _ _ _ _ _ ?_,t5⟩
     exact .cons i64 _ k _ _ _ (eS h0 hk rfl) (.cons C0 _ (a,n,m,()) _ _ _ (.cons .bool _ a _ _ _ (eS h1 ha rfl) (.cons _ _ n _ _ _ (eS X hn rfl) (.cons _ _ m _ _ _ (eS h3 hm rfl) .nil)))
      (.cons .str _ s _ _ _ (eS h4 hs rfl) (.cons _ _ l _ _ _ (eS h5 B rfl) .nil)))
    ·cases he
   ·cases he
theorem mV{τ:Ty}{d:D}{v:Value}{x:den τ}(h:RD O d v)(U:p9 τ d=some x):RD O (.qi τ x) v:=by
 have key:(∀ σ y,d≠.qi σ y)->(bif (d.isAgg==τ.isAgg) && !d.bT then(match dc τ (wb d)with | some (x,[])=>some x | _=>none)else none)=some x->RD O (.qi τ x) v:=by
  intro hni U
  cases hc:(d.isAgg==τ.isAgg) && !d.bT with
  | false=>grind
  | true =>
  rw[hc]at U
  simp at hc
  obtain⟨zcG,HM⟩:=hc
  split at U
  ·rename_i y hy
   cases U
   obtain⟨c1,c2,he,h1,X⟩:=WH τ (cQ h HM) hy
   have e2:=X.wh
   subst e2
   rw[List.append_nil]at he
   have hv:v=pk τ c1:=by
    rw[<- he]
    cases V:d.isAgg with
    | true =>
     cases d<;>simp[D.isAgg]at V
     cases h with | agg l vs B ho h=>simp[pk,D.isAgg]at zcG ⊢; simp[<- zcG,qB]
    | false =>
     simp only[pk,<- zcG]
     cases h<;>first | rfl | (rw[YJ]; rfl) | (rename_i h _ _; rw[Wq (h.one _ (List.mem_singleton.2 rfl))]; rfl) | (rename_i hu; rw[Wq hu]; rfl) | (rename_i σ y cs hc; exact absurd rfl (hni σ y)) | (simp at V; done) | (simp at HM; done)
   rw[hv]
   exact .qi τ _ c1 h1
  ·cases U
 cases d with
 | qi σ y=>obtain⟨rfl,rfl⟩:=wi U; exact h
 | BU l=>cases U
 | _=>exact key (λ_ _=>nofun) U
end
end Go.AM
namespace Go.AM
set_option linter.unusedSectionVars false
variable [gB]
def wC(P:Program)(s:Sem Next)(O:KS)(d:Option D)(qm:St):Prop :=
 ∃ (E:KS) (n:Next) (v:Value),s.run P O.w=.ok n E.w/\(n=.value v\/(n=.skip/\v=undef))/\E.st=qm/\Inv E/\Ext O E/\∀ d',d=some d'->RD E d' v
section
variable {c:Ctx} {O:KS}
theorem wC.pure{s:Sem Value}{d:D}{v:Value}(hi:Inv O)(h:s.run c.P O.w=.ok v O.w)(V:RD O d v):wC c.P (do zG (.value (<- s))) O (some d) O.st :=
 ⟨O,.value v,v,by simp[h],.inl rfl,rfl,hi,Ext.refl O,λ_ he=>wa⟩
theorem wC.val{d:Option D}{v:Value}(hi:Inv O)(V:∀ d',d=some d'->RD O d' v):wC c.P (zG (.value v)) O d O.st :=
 ⟨O,.value v,v,rfl,.inl rfl,rfl,hi,Ext.refl O,V⟩
theorem mO{t n:Nat}(h:tL c t=some n):∃ i,c.P.info? t=some i/\i.size=n:=by
 unfold tL at h
 cases hi:c.P.info? t with
 | none=>grind
 | some i=>grind
theorem run_sizeOf{t n:Nat}(h:tL c t=some n)(w:World):(sizeOf t).run c.P w=.ok n w:=by
 obtain⟨i,h1,X⟩:=mO h
 simp[sizeOf,typeInfo,h1,X]
theorem WA{t:Nat}{b:Bool}(h:Eo c t=some b)(w:World):(isAgg t).run c.P w=.ok b w:=by
 unfold Eo at h
 cases hu:c.P.underlying t with
 | none=>grind
 | some d =>
  simp only[isAgg,I,run_underlying hu]
  cases d<;>simp[hu]at h<;>simp[<- h]
theorem ko{t:Nat}{τ:Ty}(h:cH c t τ=true):tL c t=some τ.size/\Eo c t=some τ.isAgg:=by
 unfold cH at h
 simp at h
 obtain⟨⟨_,h1⟩,X⟩:=h
 constructor
 ·split at h1
  ·rename_i n hn; rw[hn,zE h1]
  ·cases h1
 ·grind
theorem UW{t:Nat}{τ:Ty}(h:cH c t τ=true):zbn τ t:=by
 unfold cH at h
 simp at h
 intro e
 subst e
 exact zE h.1.1
omit [gB]in
theorem addr_add(blk o j:Nat):(⟨blk,o,none⟩:Addr).add j=⟨blk,o+j,none⟩:=by unfold Addr.add; split<;>simp_all
theorem tG{t:Nat}{b:Bool}{n blk o:Nat}{cs:List Value}(ha:Eo c t=some b)(hn:tL c t=some n)(B:cs.length=n)(h1:b=false->n=1)
  (hc:∀ j v,cs[j]? = some v->O.w.cell? ⟨blk,o+j,none⟩=some v) :
  (loadVar t ⟨blk,o,none⟩).run c.P O.w=.ok (if b then .agg cs.toArray else cs.headD undef) O.w:=by
 simp only[loadVar,I,WA ha]
 cases b with
 | true =>
  simp[if_true,run_sizeOf hn]
  rw[<- B,run_loadCells_list O.w ⟨blk,o,none⟩ cs (λj v hj=>by rw[addr_add]; exact hc j v hj)]
  simp
 | false =>
  have:=h1 rfl
  subst this
  match cs,B with
  | [v],_ =>
   have:=hc 0 v rfl
   simp at this
   simp[this]
theorem z1O{t:Nat}{τ:Ty}{x:den τ}{cs:List Value}{blk o:Nat}(ht:cH c t τ=true)(h:Rc O.w O.ok τ x cs)
  (hc:∀ j v,cs[j]? = some v->O.w.cell? ⟨blk,o+j,none⟩=some v):(loadVar t ⟨blk,o,none⟩).run c.P O.w=.ok (pk τ cs) O.w:=by
 obtain⟨h1,X⟩:=ko ht
 rw[tG (c:=c) X h1 h.len (λe=>Ku e) hc]
 rfl
theorem ya{t:T (Option D)}{st qm:St}{d:Option D}:(qt (.val t) st).leads (d,qm)↔t.leads d/\qm=st:=by
 simp only[qt,T.xg,T.leads]
 grind
theorem sa{k:St->T (Option D)}{st qm:St}{d:Option D}:(qt (.rd k) st).leads (d,qm)↔(k st).leads d/\qm=st:=by
 simp only[qt,T.xg,T.leads]
 grind
theorem zi{st:St}{r:Option D×St}:¬ (qt bad st).leads r:=by nofun
theorem dP{x:D}{st qm:St}{d:Option D}:(qt (AM.val x) st).leads (d,qm)↔d=some x/\qm=st:=by
 rw[AM.val,ya]; simp only[T.leads]; exact⟨λh=>⟨h.1.symm,h.2⟩,λh=>⟨h.1.symm,h.2⟩⟩
theorem yS{p:Prop}{x:D}{st qm:St}{d:Option D}:(qt (.val (.zl p (.ret (some x)))) st).leads (d,qm)↔p/\d=some x/\qm=st:=by
 rw[ya]; simp only[T.leads]
 grind
theorem Gj{x:Option D}{st qm:St}{d:Option D}(h:(qt (z9F x) st).leads (d,qm)):∃ y,x=some y/\d=some y/\qm=st:=by
 cases x with
 | none=>exact absurd h zi
 | some y=>rw[z9F,ya]at h; exact⟨y,rfl,h.1.symm,h.2⟩
theorem Y6:∀ (τ:Ty) (x:den τ) {cs:List Value},wQ O (flat τ x) cs->Rc O.w O.ok τ x cs
 | .int k,x,cs,h=>by obtain⟨v,r,rfl,h1,X⟩:=h.cons_inv; rw[X.wh]; exact h1.jQ rfl
 | .bool,x,cs,h=>by obtain⟨v,r,rfl,h1,X⟩:=h.cons_inv; rw[X.wh]; exact h1.jQ rfl
 | .str,x,cs,h=>by obtain⟨v,r,rfl,h1,X⟩:=h.cons_inv; rw[X.wh]; exact h1.jQ rfl
 | .sl e,x,cs,h=>by obtain⟨v,r,rfl,h1,X⟩:=h.cons_inv; rw[X.wh]; exact h1.jQ rfl
 | .nil,x,cs,h=>by rw[h.wh]; exact .nil
 | .cons a b,x,cs,h=>by
  obtain⟨c1,c2,rfl,h1,X⟩:=wQ.L9 h
  exact .cons a b x.1 x.2 c1 c2 (Y6 a x.1 h1) (Y6 b x.2 X)
 | .expr,.mk k (a,n,m,()) s l,cs,h=>by
  obtain⟨v,u,rfl,h0,t0⟩:=h.cons_inv
  obtain⟨v1,u1,rfl,h1,t1⟩:=t0.cons_inv
  obtain⟨v2,u2,rfl,X,t2⟩:=t1.cons_inv
  obtain⟨v3,u3,rfl,h3,t3⟩:=t2.cons_inv
  obtain⟨v4,u4,rfl,h4,t4⟩:=t3.cons_inv
  obtain⟨v5,u5,rfl,h5,t5⟩:=t4.cons_inv
  rw[t5.wh]
  exact .expr _ _ _ _ _ (.cons i64 _ k _ _ _ (h0.jQ rfl) (.cons C0 _ (a,n,m,()) _ _ _ (.cons .bool _ a _ _ _ (h1.jQ rfl) (.cons (.sl u32) (.cons (.sl u32) .nil) n (m,()) [v2] ([v3]++[]) (X.jQ rfl) (.cons (.sl u32) .nil m () [v3] [] (h3.jQ rfl) .nil)))
      (.cons .str _ s _ _ _ (h4.jQ rfl) (.cons (.sl .expr) .nil l () [v5] [] (h5.jQ rfl) .nil))))
theorem Rr{t:Nat}{d r:D}{off:Nat}{vs:List Value}(h:MZ c t d off=some r)(V:wQ O (wb d) vs)(Q8:∀ x∈wb d,x.one=true) :
  (∃ n,Eo c t=some true/\tL c t=some n/\off+n<=vs.length/\RD O r (.agg ((vs.drop off).take n).toArray)) \/
  (∃ v,Eo c t=some false/\vs[off]? = some v/\RD O r v):=by
 unfold MZ at h
 split at h
 ·rename_i ha
  split at h
  ·cases h
  ·rename_i n hn
   refine .inl ⟨n,ha,hn,?_⟩
   cases J:(zA off 0&&zA n (wb d).length&&d.zfx)with
   | true =>
    rw[J]at h
    simp at h
    subst h
    simp only[zM]at J
    obtain⟨⟨h1,X⟩,h3⟩:=J
    have e1:off=0:=zE h1
    have e2:n=(wb d).length:=zE X
    subst e1
    have B:=V.1
    rw[e2,B]
    refine⟨Z,?_⟩
    simp
    cases d with
    | qi τ x =>
     have:=RD.qi τ x vs (Y6 τ x V)
     simpa[pk,show τ.isAgg=true from h3]using this
    | agg l=>exact .agg l vs B Q8 V.2
    | _=>cases h3
   | false =>
    rw[J]at h
    split at h
    ·rename_i l B
     cases h
     unfold Ce at B
     cases hle:zJ (off+n) (wb d).length with
     | false=>grind
     | true =>
      rw[hle]at B
      cases B
      have HH:=zK hle
      refine⟨by rw[<- V.1]; exact HH,?_⟩
      have ht:=(V.drop off).take n
      exact .agg _ _ ht.1 (λx U=>Q8 x (List.mem_of_mem_drop (List.mem_of_mem_take U))) ht.2
    ·cases h
 ·rename_i ha
  obtain⟨v,h1,X⟩:=V.get h
  grind
 ·cases h
theorem Gk{t:Nat}{d r:D}{off blk:Nat}{vs:List Value}(base:Nat)(h:MZ c t d off=some r)(V:wQ O (wb d) vs)(Q8:∀ x∈wb d,x.one=true)
  (hc:∀ j v,vs[j]? = some v->O.w.cell? ⟨blk,base+j,none⟩=some v):∃ v,(loadVar t ⟨blk,base+off,none⟩).run c.P O.w=.ok v O.w/\RD O r v:=by
 rcases Rr h V Q8 with⟨n,ha,hn,hle,hr⟩ | ⟨v,ha,hv,hr⟩
 ·refine⟨_,?_,hr⟩
  rw[tG (c:=c) (b:=true) (cs:=(vs.drop off).take n) ha hn (wa) nofun]
  ·simp
  ·grind
 ·refine⟨v,?_,hr⟩
  simp only[loadVar,I,WA ha]
  simp[hc off v hv]
theorem Wn{blk:Nat}{cs:Array Value}{t:TypeId}{fz:Nat×Nat}(h:O.w.heap[blk]? = some (.cells cs t fz))(o:Nat):O.w.cell? ⟨blk,o,none⟩=cs[o]? := by
 simp[World.cell?,h]
theorem Ta{t:Nat}{x:Option D}{v:Value}{d:Option D}{qm:St}(hi:Inv O)(U:∀ y,x=some y->RD O y v)(h:(qt (Vq c t x) O.st).leads (d,qm)) :
  wC c.P (do zG (.value (<- zW t v))) O d qm:=by
 unfold Vq at h
 split at h
 ·rename_i τ y
  cases ht:cH c t τ with
  | false=>rw[ht]at h; exact absurd h zi
  | true =>
   rw[ht,cond_true,dP]at h
   obtain⟨rfl,rfl⟩:=h
   cases U _ rfl with
   | vE _ _ cs blk off j9 hr hc =>
    exact wC.pure hi (by simp[zW,zQ,z1O ht hr hc]) (.qi τ y cs hr)
 ·rename_i b off
  rw[sa]at h
  obtain⟨h,rfl⟩:=h
  split at h
  ·rename_i d0 J
   cases KO:d0.G2 with
   | true=>rw[KO]at h; exact h.elim
   | false =>
   rw[KO,cond_false]at h
   split at h
   ·rename_i r hr
    cases h
    cases U _ rfl with
    | ptr _ _ blk n d1 V hp =>
     obtain⟨r7,n',cs,T,g1,g2,g3,g4,g5⟩:=(hi.blk b _ J:yf O b d0).cells KO
     rw[hp]at g1
     cases g1
     obtain⟨v,h1,X⟩:=Gk (c:=c) (blk:=blk) 0 hr g4 g5.1 (λj v hj=>by rw[Wn g2]; simpa using hj)
     rw[Nat.zero_add]at h1
     exact wC.pure hi (by simp[zW,zQ,h1]) X
   ·exact h.elim
  ·exact h.elim
 ·rename_i b vk e idx off
  rw[sa]at h
  obtain⟨h,rfl⟩:=h
  split at h
  ·rename_i dZ e' xs J
   cases he:decide (e'=e)with
   | false=>rw[he]at h; exact h.elim
   | true =>
    rw[he,cond_true]at h
    have LU:e'=e:=uY he
    subst LU
    obtain⟨⟨rfl,wO⟩,h⟩:=h
    split at h
    ·rename_i r hr
     cases h
     cases U _ rfl with
     | gW _ _ _ _ _ blk o hold hp =>
      obtain⟨n,p1,rfl⟩:=hp xs J wO
      obtain⟨cp,⟨YW,_⟩ | ⟨r7,n',cs,T,g1,g2,g3,g4,gr,f,g5⟩⟩:=hi.blk b _ J
      ·grind
      ·rw[p1]at g1
       cases g1
       have hg:xs.getD idx (zb e')=xs[idx]:=by simp[zR,zP wO]
       rw[hg]at hr
       obtain⟨k1,k2⟩:=g5 idx wO
       obtain⟨v,h1,X⟩:=Gk (c:=c) (blk:=blk) (idx*e'.size) hr (Xo k1) (rR _ _) (λj v hj=>by rw[Wn g2]; exact k2 j v hj)
       exact wC.pure hi (by simp[zW,zQ,h1]) X
    ·exact h.elim
  ·exact h.elim
 ·exact absurd h zi
end
end Go.AM
namespace Go.AM
set_option linter.unusedSectionVars false
variable [gB]
section
variable {c:Ctx} {O:KS}
theorem CV{s f o n:Nat}(h:Y4 c s f=some (o,n)):∃ fs fd,c.P.underlying s=some (.struct fs)/\fs[f]? = some fd/\tL c fd.type=some n/\n≠0/\fd.offset=o:=by
 unfold Y4 at h
 split at h
 ·rename_i fs hu
  split at h
  ·rename_i fd hf
   split at h
   ·rename_i m hm
    cases J:zA m 0 with
    | true=>grind
    | false =>
     rw[J]at h
     cases h
     refine⟨fs,fd,hu,hf,hm,?_,rfl⟩
     intro e
     subst e
     cases J
   ·cases h
  ·cases h
 ·cases h
theorem XM{s f o n blk p:Nat}(h:Y4 c s f=some (o,n))(w:World) :
  (qC s (.pointer (some ⟨blk,p,none⟩)) f).run c.P w=.ok (.pointer (some ⟨blk,p+o,none⟩)) w:=by
 obtain⟨fs,fd,h1,X,h3,h4,h5⟩:=CV h
 simp[qC,run_underlying h1,X,zQ,fieldPlace,run_sizeOf h3,h4,addr_add]
theorem YS:∀ (τ:Ty) (x:den τ) (n:Nat) {d:D} {o s:Nat} {cs:List Value},Xp τ x n=some (d,o,s)->Rc O.w O.ok τ x cs ->
  ∃ (σ:Ty) (y:den σ) (c2:List Value),d=.vE σ y/\Rc O.w O.ok σ y c2/\s=σ.size/\∀ j v,c2[j]? = some v->cs[o+j]? = some v
 | .cons a b,x,0,d,o,s,cs,h,hr=>by
  simp only[Xp]at h
  cases h
  obtain⟨c1,c2,rfl,h1,X⟩:=hr.cons_inv
  grind
 | .cons a b,x,n+1,d,o,s,cs,h,hr=>by
  simp only[Xp]at h
  split at h
  ·rename_i d' o' s' h'
   cases h
   obtain⟨c1,c2,rfl,h1,X⟩:=hr.cons_inv
   obtain⟨σ,y,c3,e1,e2,e3,e4⟩:=YS b x.2 n h' X
   refine⟨σ,y,c3,e1,e2,e3,λj v hj => ?_⟩
   have:=h1.len
   grind
  ·cases h
 | .expr,.mk k (a,n,m,()) s l,i,d,o,z,cs,h,hr=>by
  obtain⟨c1,r1,rfl,h1,t1⟩:=hr.F4.cons_inv
  obtain⟨c2,r2,rfl,X,t2⟩:=t1.cons_inv
  obtain⟨c3,r3,rfl,h3,t3⟩:=t2.cons_inv
  obtain⟨c4,r4,rfl,h4,t4⟩:=t3.cons_inv
  have e4:=t4.wh
  subst e4
  have l2:c2.length=3:=X.len
  obtain⟨v1,rfl⟩:=h1.single rfl
  obtain⟨v3,rfl⟩:=h3.single rfl
  obtain⟨v4,rfl⟩:=h4.single rfl
  match i,h with
  | 0,h=>simp only[Xp]at h; cases h; exact⟨i64,_,_,rfl,h1,rfl,λj v hj=>by match j,hj with | 0,hj=>simpa using hj⟩
  | 1,h => 
   simp only[Xp]at h; cases h
   refine⟨C0,_,_,rfl,X,rfl,λj v hj => ?_⟩
   grind
  | 2,h =>
   simp only[Xp]at h; cases h
   refine⟨.str,_,_,rfl,h3,rfl,λj v hj => ?_⟩
   grind
  | 3,h =>
   simp only[Xp]at h; cases h
   refine⟨.sl .expr,_,_,rfl,h4,rfl,λj v hj => ?_⟩
   match j,hj with
   | 0,hj =>
    simp only[List.cons_append,List.nil_append,Nat.add_zero,List.getElem?_cons_succ]
    rw[List.getElem?_append_right (Z),l2]; simpa using hj
  | n+4,h=>simp[Xp]at h
 | .int _,_,_,_,_,_,_,h,_ | .bool,_,_,_,_,_,_,h,_ | .str,_,_,_,_,_,_,h,_ | .sl _,_,_,_,_,_,_,h,_ | .nil,_,_,_,_,_,_,h,_=>by simp[Xp]at h
theorem YQ{s f:Nat}{x:Option D}{v:Value}{d:Option D}{qm:St}(hi:Inv O)(U:∀ y,x=some y->RD O y v)(h:(qt (Xn c s f x) O.st).leads (d,qm)) :
  wC c.P (do zG (.value (<- qC s v f))) O d qm:=by
 unfold Xn at h
 split at h
 ·exact absurd h zi
 ·rename_i o n hf
  split at h
  ·rename_i τ y
   split at h
   ·rename_i d' o' n' Ke
    cases J:zA o o'&&zA n n' with
    | false=>rw[J]at h; exact absurd h zi
    | true =>
     rw[J,cond_true,dP]at h
     obtain⟨rfl,rfl⟩:=h
     simp only[zM]at J
     have e1:o=o':=zE J.1
     subst e1
     cases U _ rfl with
     | vE _ _ cs blk off j9 hr hc =>
      obtain⟨σ,z,c2,rfl,g1,g2,g3⟩:=YS τ y f Ke hr
      exact wC.pure hi (XM hf O.w) (.vE σ z c2 blk (off+o) j9 g1 λj u hj=>wa)
   ·exact absurd h zi
  ·rename_i b off
   obtain⟨rfl,rfl⟩:=h
   cases U _ rfl with
   | ptr _ _ blk n d V hp=>exact wC.pure hi (XM hf O.w) (.ptr b (off+o) blk n d V hp)
  ·rename_i b vk e idx off
   obtain⟨rfl,rfl⟩:=h
   cases U _ rfl with
   | gW _ _ _ _ _ blk p hold hp =>
    refine wC.pure hi (XM hf O.w) (.gW b vk e idx (off+o) blk (p+o) hold λxs h1 X => ?_)
    grind
  ·exact absurd h zi
theorem LH{s f:Nat}{x:Option D}{v:Value}{d:Option D}{qm:St}(hi:Inv O)(U:∀ y,x=some y->RD O y v)(h:(qt (CW c s f x) O.st).leads (d,qm)) :
  wC c.P (do zG (.value (<- qE s v f))) O d qm:=by
 unfold CW at h
 split at h
 ·rename_i fs hu
  split at h
  ·rename_i fd hf
   split at h
   ·rename_i y
    obtain⟨r,hr,rfl,rfl⟩:=Gj h
    cases hag:y.cY with
    | false=>grind
    | true =>
    rw[hag,cond_true]at hr
    have hy:=U _ rfl
    have ⟨vs,hv,hvs⟩:∃ vs,v=.agg vs/\wQ O (wb y) vs.toList:=by
     have hfd:=cQ hy (by cases y<;>simp[D.cY,D.bT]at hag ⊢)
     cases hy<;>simp[D.cY]at hag
     ·rename_i τ z cs hc
      exact⟨cs.toArray,by simp[pk,hag],by simpa[pk,hag,qB]using hfd⟩
     ·rename_i l vs B ho hh
      exact⟨vs.toArray,rfl,by simpa[qB]using hfd⟩
    subst hv
    rcases Rr hr hvs (cP hy)with⟨n,ha,hn,hle,hrd⟩ | ⟨u,ha,SL,hrd⟩
    ·refine wC.pure hi ?_ hrd
     simp only[qE,I,run_underlying hu,Y,hf,asAgg,zN,part,WA ha,if_true,run_sizeOf hn]
     congr 2
     grind
    ·refine wC.pure hi ?_ hrd
     have:vs[fd.offset]? = some u:=by simpa using SL
     simp[qE,run_underlying hu,hf,asAgg,part,WA ha,this]
   ·exact absurd h zi
  ·exact absurd h zi
 ·exact absurd h zi
theorem ga{t e:Nat}(h:nD c t=some e):c.P.underlying t=some (.slice e):=by
 unfold nD at h
 grind
theorem kI{x:Option D}{k:IntKind}{n:Int}{v:Value}(h:asInt x=some (k,n))(U:∀ y,x=some y->RD O y v):v=.int k n:=by
 unfold asInt at h
 split at h
 ·cases h; exact(U _ rfl).ev
 ·cases h
theorem X3{x:Option D}{s:zo}{v:Value}(h:Yz x=some s)(U:∀ y,x=some y->RD O y v):v=.string ⟨s.toArray⟩:=by
 unfold Yz at h
 split at h
 ·cases h; exact(U _ rfl).jk
 ·cases h
theorem Z6{x:Option D}{b:Bool}{v:Value}(h:asBool x=some b)(U:∀ y,x=some y->RD O y v):v=.bool b:=by
 unfold asBool at h
 split at h
 ·cases h; exact(U _ rfl).cL
 ·cases h
theorem getD_lt{α:Type}{l:List α}{i:Nat}(h:i<l.length)(d:α):zR l i d=l[i]:=wa
theorem X7{a:Ty}(x:den a):(jY x:Option (den a))=some x:=by simp[jY]
theorem Ey{w:World}{ok:Nat->Prop}:∀ (τ:Ty) (e:Ty) (n:Nat) (x:den τ) (cs:List Value) (i:Nat),Ez τ=some (e,n)->Rc w ok τ x cs->i<n ->
  ∃ c,Rc w ok e (WU e τ x i) c/\∀ j v,c[j]? = some v->cs[i*e.size+j]? = some v
 | .cons a b,e,n,x,cs,i,ht,hr,hi=>by
  obtain⟨c1,c2,rfl,h1,X⟩:=hr.cons_inv
  have key:∀ m,(b=.nil/\m=0\/Ez b=some (a,m))->i<m+1->∃ c,Rc w ok a (WU a (.cons a b) x i) c/\∀ j v,c[j]? = some v->(c1++c2)[i*a.size+j]? = some v:=by
   intro m hm hi
   cases i with
   | zero =>
    refine⟨c1,by simp only[WU,X7]; exact h1,λj v hj => ?_⟩
    grind
   | succ i =>
    rcases hm with⟨rfl,rfl⟩ | hm
    ·omega
    ·obtain⟨c,g1,g2⟩:=Ey b a m x.2 c2 i hm X (Z)
     refine⟨c,g1,λj v hj => ?_⟩
     have B:=h1.len
     grind
  unfold Ez at ht
  split at ht
  ·cases ht; exact key 0 (.inl ⟨rfl,rfl⟩) (Z)
  ·grind
 | .int _,_,_,_,_,_,ht,_,_=>by cases ht
 | .bool,_,_,_,_,_,ht,_,_=>by cases ht
 | .str,_,_,_,_,_,ht,_,_=>by cases ht
 | .sl _,_,_,_,_,_,ht,_,_=>by cases ht
 | .nil,_,_,_,_,_,ht,_,_=>by cases ht
 | .expr,_,_,_,_,_,ht,_,_=>by cases ht
theorem S7{t n e:Nat}(h:zc6 c t=some (n,e)):c.P.underlying t=some (.array n e):=by
 unfold zc6 at h
 grind
theorem HO{t:Nat}{x i:Option D}{k:IntKind}{n:Int}{v u:Value}{d:Option D}{qm:St}(hi:Inv O)(U:∀ y,x=some y->RD O y v)(hy:∀ y,i=some y->RD O y u)(JE:asInt i=some (k,n))
  (h:(qt (G0 c t x n) O.st).leads (d,qm)):wC c.P (do zG (.value (<- zO t v u))) O d qm:=by
 have SL:=kI JE hy
 subst SL
 unfold G0 at h
 split at h
 ·rename_i m et τ y ha
  have hu:=S7 ha
  split at h
  ·rename_i e m' NS
   cases ht:cH c et e&&zA m m' with
   | false=>rw[ht]at h; exact absurd h zi
   | true =>
    rw[ht,cond_true,yS]at h
    simp only[zM]at ht
    have:=zE ht.2
    subst this
    obtain⟨⟨h0,h1⟩,rfl,rfl⟩:=h
    obtain⟨hs,_⟩:=ko ht.1
    cases U _ rfl with
    | vE _ _ cs blk off j9 Ee hc =>
     obtain⟨cc,g1,g2⟩:=Ey τ e m y cs n.toNat NS Ee (Z)
     refine wC.pure hi ?_ (.vE e _ cc blk (off+n.toNat*e.size) j9 g1 λj v hj=>wa)
     simp[zO,asIntOf,run_underlying hu,h0,h1,run_sizeOf hs,addr_add,zQ]
  ·exact absurd h zi
 ·exact absurd h zi
theorem YZ{t:Nat}{x i:Option D}{v u:Value}{d:Option D}{qm:St}(hi:Inv O)(U:∀ y,x=some y->RD O y v)(hy:∀ y,i=some y->RD O y u)
  (h:(qt (Xr c t x i) O.st).leads (d,qm)):wC c.P (do zG (.value (<- zO t v u))) O d qm:=by
 unfold Xr at h
 split at h
 ·rename_i k n het JE
  exact HO hi U hy JE h
 ·rename_i et k n het JE
  have hu:=ga het
  have SL:=kI JE hy
  subst SL
  split at h
  ·rename_i e l
   cases ht:cH c et e with
   | false=>rw[ht]at h; exact absurd h zi
   | true =>
    rw[ht,cond_true,yS]at h
    obtain⟨⟨h0,h1⟩,rfl,rfl⟩:=h
    obtain⟨hs,_⟩:=ko ht
    have wO:n.toNat<W l:=Z
    rcases((U _ rfl).jQ rfl).tY with⟨rfl,_⟩ | ⟨blk,off,cap,f,he,j9,jq,hh,hc⟩
    ·cases wO
    ·cases he
     rw[getD_lt wO]
     refine wC.pure hi ?_ (.vE e _ (f n.toNat) blk (off+n.toNat*e.size) j9 (hh _ wO) λj v hj=>hc _ wO j v hj)
     simp[zO,asIntOf,run_underlying hu,h0,h1,run_sizeOf hs,addr_add]
  ·rename_i e l ne
   cases ht:cH c et e with
   | false=>rw[ht]at h; exact absurd h zi
   | true =>
    rw[ht,cond_true,yS]at h
    obtain⟨⟨h0,h1⟩,rfl,rfl⟩:=h
    obtain⟨hs,_⟩:=ko ht
    have wO:n.toNat<W l:=Z
    cases U _ rfl with
    | vD=>cases wO
    | tight _ _ _ blk off f kB j9 hh hc =>
     rw[getD_lt wO]
     refine wC.pure hi ?_ (.vE e _ (f n.toNat) blk (off+n.toNat*e.size) j9 (hh _ wO) λj v hj=>hc _ wO j v hj)
     simp[zO,asIntOf,run_underlying hu,h0,h1,run_sizeOf hs,addr_add]
  ·rename_i b vk e off len
   cases ht:cH c et e with
   | false=>rw[ht]at h; exact absurd h zi
   | true =>
    rw[ht,cond_true,yS]at h
    obtain⟨⟨h0,h1⟩,rfl,rfl⟩:=h
    obtain⟨hs,_⟩:=ko ht
    cases U _ rfl with
    | ms _ _ _ _ _ cap a hold jq ha WO hm =>
     cases a with
     | none=>grind
     | some p =>
      have hp:=WO p rfl
      obtain⟨blk,o,sp⟩:=p
      subst hp
      refine wC.pure hi (v:=.pointer (some ⟨blk,o+n.toNat*e.size,none⟩)) ?_ (.gW b vk e (off+n.toNat) 0 blk _ hold λxs J wO => ?_)
      ·simp[zO,asIntOf,run_underlying hu,h0,h1,run_sizeOf hs,addr_add]
      ·obtain⟨hle,⟨_,_,hv,_⟩ | ⟨r7,n',o',U8,h3,h4,h5,h6,h7⟩⟩:=hm xs J
       ·cases hv
       ·grind
  ·exact absurd h zi
 ·exact absurd h zi
theorem Sa(s:zo){i:Nat}(h:i<s.length):(⟨s.toArray⟩:ByteArray)[i]? = some s[i]:=by
 have cp:(⟨s.toArray⟩:ByteArray).size=s.length:=rfl
 rw[getElem?_pos _ _ (wa)]
 rfl
theorem M5{t:Nat}{x i:Option D}{v u:Value}{d:Option D}{qm:St}(hi:Inv O)(U:∀ y,x=some y->RD O y v)(hy:∀ y,i=some y->RD O y u)
  (h:(qt (Dc c t x i) O.st).leads (d,qm)):wC c.P (do zG (.value (<- Instr.index t v u))) O d qm:=by
 unfold Dc at h
 split at h
 ·rename_i k n s JE hs hu
  have SL:=kI JE hy
  subst SL
  have hv:=X3 hs U
  subst hv
  obtain⟨⟨h0,h1⟩,rfl,rfl⟩:=h
  have wO:n.toNat<s.length:=Z
  rw[getD_lt wO]
  exact wC.pure hi (by simp[Instr.index,asIntOf,run_underlying hu,h0,Sa s wO]) RD.int
 ·exact absurd h zi
def JZ(O:KS):Option (Option D)->Option Value->Prop
 | none,none=>True
 | some x,some v=>∀ y,x=some y->RD O y v
 | _,_=>False
theorem YF{d n:Int}{x:Option (Option D)}{v:Option Value}(h:S8 d x=some n)(U:JZ O x v):(x=none/\v=none/\n=d)\/(x.isSome/\∃ k,v=some (.int k n)):=by
 cases x with
 | none=>cases v with
  | none=>exact .inl ⟨rfl,rfl,by simpa[S8]using h.symm⟩
  | some v=>exact U.elim
 | some x=>cases v with
  | none=>exact U.elim
  | some v =>
   simp only[S8]at h
   split at h
   ·rename_i k i hk; cases h; exact .inr ⟨rfl,k,by rw[kI hk U]⟩
   ·cases h
end
end Go.AM
namespace Go.AM
set_option linter.unusedSectionVars false
variable [gB]
section
variable {c:Ctx} {O:KS}
theorem dU{P:Program}{isS:Bool}{len cap:Nat}{lo hi mx:Option Value}{l h:Int}{m:Nat}
  (B:(lo=none/\l=0)\/∃ k,lo=some (.int k l)) (hh:(hi=none/\mx=none/\h=len)\/∃ k,hi=some (.int k h))
  (hm:(mx=none/\m=cap)\/∃ k,mx=some (.int k m)) (h0:0<=l) (h1:l<=h) (X:h<=m) (h3:m<=cap) (w:World) :
  (zU isS len cap lo hi mx).run P w=.ok (l.toNat,h.toNat,m) w:=by
 have hh0:(0:Int)<=h:=Z
 have Hk:l<=(h.toNat:Int):=Z
 rcases B with⟨rfl,rfl⟩ | ⟨k1,rfl⟩<;>rcases hm with⟨rfl,rfl⟩ | ⟨k3,rfl⟩<;>rcases hh with⟨rfl,U,rfl⟩ | ⟨k2,rfl⟩ <;>
  first
   | (cases U; done)
   | (simp[zU,run_sliceBound, *]; done)
   | (simp[zU,run_sliceBound, *]; rw[run_sliceBound _ _ _ _ _ h0 Hk]; rfl)
theorem Ir(s:zo)(l h:Int):(⟨s.toArray⟩:ByteArray).extract l.toNat h.toNat=⟨(iv l h s).toArray⟩:=by
 apply ByteArray.ext
 simp[iv,List.drop_take]
theorem YE{n:Int}{x:Option (Option D)}{v:Option Value}(h:S8 0 x=some n)(U:JZ O x v):(v=none/\n=0)\/∃ k,v=some (.int k n):=by
 rcases YF h U with⟨_,h1,X⟩ | ⟨_,h1⟩
 ·grind
 ·grind
theorem CD{d n:Int}{x:Option (Option D)}{v:Option Value}(h:S8 d x=some n)(U:JZ O x v):(v=none/\n=d)\/∃ k,v=some (.int k n):=by
 rcases YF h U with⟨_,h1,X⟩ | ⟨_,h1⟩
 ·grind
 ·grind
theorem UY{v:Option Value}(h:JZ O none v):v=none:=by cases v with | none=>rfl | some _=>exact h.elim
theorem W8{e:Ty}{l:List (den e)}{lo hi:Int}(h0:0<=lo)(h1:lo<=hi)(X:hi<=(l.length:Int)) :
  (jS lo hi l).length=hi.toNat-lo.toNat/\∀ i (Ya:i<(jS lo hi l).length),∃ h:lo.toNat+i<l.length,(jS lo hi l)[i]=l[lo.toNat+i]:=by
 have hlen:(jS lo hi l).length=hi.toNat-lo.toNat:=by simp[jS]; omega
 refine⟨hlen,λi Ya=>⟨Z,?_⟩⟩
 simp[jS]
theorem MP{e:Ty}{l:List (den e)}{lo hi:Int}{blk off cap m:Nat}{f:Nat->List Value}(j9:O.ok blk)
  (hh:∀ i (hi:i<l.length),Rc O.w O.ok e l[i] (f i)) (hc:∀ i,i<l.length->∀ j v,(f i)[j]? = some v->O.w.cell? ⟨blk,off+i*e.size+j,none⟩=some v)
  (h0:0<=lo) (h1:lo<=hi) (X:hi<=(l.length:Int)) (hm:hi<=(m:Int)) (jq:m<=cap) :
  (∀ i (Ya:i<(jS lo hi l).length),Rc O.w O.ok e (jS lo hi l)[i] (f (lo.toNat+i))) /\
  (∀ i,i<(jS lo hi l).length->∀ j v,(f (lo.toNat+i))[j]? = some v ->
   O.w.cell? ⟨blk,(if m=lo.toNat then off else off+lo.toNat*e.size)+i*e.size+j,none⟩=some v)/\(jS lo hi l).length<=m-lo.toNat:=by
 obtain⟨B,hg⟩:=W8 h0 h1 X
 refine⟨λi Ya => ?_,λi Ya j v hj => ?_,Z⟩
 ·obtain⟨h3,h4⟩:=hg i Ya
  rw[h4]; exact hh _ h3
 ·obtain⟨h3,h4⟩:=hg i Ya
  have:=hc _ h3 j v hj
  rw[if_neg (Z)]
  rw[Nat.add_mul,<- Nat.add_assoc]at this
  exact this
theorem MQ{t:Nat}{x:Option D}{lo hi mx:Option (Option D)}{v:Value}{vl vh vm:Option Value}{d:Option D}{qm:St}(hI:Inv O)(U:∀ y,x=some y->RD O y v)
  (hlo:JZ O lo vl) (hhi:JZ O hi vh) (hmx:JZ O mx vm)
  (h:(qt (DN c t x lo hi mx) O.st).leads (d,qm)):wC c.P (do zG (.value (<- zH t v vl vh vm))) O d qm:=by
 unfold DN at h
 split at h
 ·rename_i s
  obtain⟨s,rfl⟩:∃ s':zo,s=s':=⟨s,rfl⟩
  split at h
  ·rename_i l hh hu B hh'
   rw[yS]at h
   obtain⟨⟨h0,h1,X⟩,rfl,rfl⟩:=h
   have hv:=(U _ rfl).jk
   subst hv
   have e1:=UY hmx
   subst e1
   refine wC.pure hI ?_ RD.str
   have cp:(⟨s.toArray⟩:ByteArray).size=s.length:=rfl
   have J:=dU (P:=c.P) (isS:=false) (len:=s.length) (cap:=s.length) (mx:=none) (m:=s.length) (YE B hlo)
    (so (CD hh' hhi) (λh=>⟨h.1,rfl,h.2⟩) id) (.inl ⟨rfl,rfl⟩) h0 h1 X (zF _) O.w
   simp only[zH,I,run_underlying hu,Y,zL,Option.isSome_none,Bool.false_eq_true,if_false,cp,J,Ir]
   rfl
  ·exact absurd h zi
 ·rename_i e s
  split at h
  ·rename_i et l hh het B hh'
   have hu:=ga het
   cases ht:cH c et e with
   | false=>rw[ht]at h; exact absurd h zi
   | true =>
    obtain⟨hs,_⟩:=ko ht
    rw[ht,cond_true]at h
    split at h
    ·rw[yS]at h
     obtain⟨⟨h0,h1,X⟩,rfl,rfl⟩:=h
     have e1:=UY hmx
     subst e1
     have HI:=YE B hlo
     have HG:(vh=none/\(none:Option Value)=none/\hh=(s.length:Int))\/∃ k,vh=some (.int k hh):=so (CD hh' hhi) (λh=>⟨h.1,rfl,h.2⟩) id
     rcases((U _ rfl).jQ rfl).tY with⟨rfl,a0,he⟩ | ⟨blk,off,cap,f,he,j9,jq,SC,hc2⟩
     ·cases he
      simp only[zZ,zT]at X
      have J:=dU (P:=c.P) (isS:=true) (len:=0) (cap:=0) (mx:=none) (m:=0) HI HG (.inl ⟨rfl,rfl⟩) h0 h1 X (zF _) O.w
      have e0:l=0:=Z
      have e2:hh=0:=Z
      subst e0 e2
      refine wC.pure hI (v:=.slice a0 0 0) ?_ (.Zk rfl (.ma e a0))
      simp[zH,run_underlying hu,zL,J,run_sizeOf hs]
     ·cases he
      obtain⟨k1,k2,k3⟩:=MP (lo:=l) (hi:=hh) (cap:=cap) (m:=cap) j9 SC hc2 h0 h1 X (Z) (zF _)
      have J:=dU (P:=c.P) (isS:=true) (len:=s.length) (cap:=cap) (mx:=none) (m:=cap) HI HG (.inl ⟨rfl,rfl⟩) h0 h1 (Z) (zF _) O.w
      have hlen:=(W8 h0 h1 X).1
      refine wC.pure hI ?_ (.Zk rfl (.sl e (jS l hh s) blk _ (cap-l.toNat) _ j9 k3 k1 k2))
      simp only[zH,I,run_underlying hu,Y,zL,J,run_sizeOf hs,zN,hlen]
      congr 3
      split<;>simp[addr_add]
    ·split at h
     ·rename_i mx m km mi hm'
      cases hhs:hi.isSome with
      | false=>rw[hhs]at h; exact absurd h zi
      | true =>
      rw[hhs,cond_true,yS]at h
      obtain⟨⟨h0,h1,rfl,X⟩,rfl,rfl⟩:=h
      obtain⟨vm,rfl⟩:∃ u,vm=some u:=by cases vm with | none=>exact hmx.elim | some u=>exact⟨u,rfl⟩
      have hvm:=kI hm' hmx
      subst hvm
      have HI:=YE B hlo
      have HG:(vh=none/\(some (Value.int km hh):Option Value)=none/\hh=(s.length:Int))\/∃ k,vh=some (.int k hh):=by
       rcases YF hh' hhi with⟨g1,_⟩ | ⟨_,g⟩
       ·rw[g1]at hhs; cases hhs
       ·exact .inr g
      have em:((hh.toNat:Nat):Int)=hh:=Z
      rcases((U _ rfl).jQ rfl).tY with⟨rfl,a0,he⟩ | ⟨blk,off,cap,f,he,j9,jq,SC,hc2⟩
      ·cases he
       simp only[zZ,zT]at X
       have J:=dU (P:=c.P) (isS:=true) (len:=0) (cap:=0) (mx:=some (.int km hh)) (m:=hh.toNat) HI HG (.inr ⟨km,by rw[em]⟩) h0 h1 (Z) (Z) O.w
       have e0:l=0:=Z
       have e2:hh=0:=Z
       subst e0 e2
       refine wC.pure hI (v:=.slice a0 0 0) ?_ (.vD e a0)
       simp[zH,run_underlying hu,zL,J,run_sizeOf hs]
      ·cases he
       obtain⟨k1,k2,k3⟩:=MP (lo:=l) (hi:=hh) (cap:=cap) (m:=hh.toNat) j9 SC hc2 h0 h1 X (Z) (Z)
       have J:=dU (P:=c.P) (isS:=true) (len:=s.length) (cap:=cap) (mx:=some (.int km hh)) (m:=hh.toNat) HI HG (.inr ⟨km,by rw[em]⟩) h0 h1 (Z) (Z) O.w
       have hlen:=(W8 h0 h1 X).1
       refine wC.pure hI ?_ (.tight e (jS l hh s) false blk _ _ nofun j9 k1 k2)
       simp only[zH,I,run_underlying hu,Y,zL,J,run_sizeOf hs,zN,hlen]
       congr 3
       split<;>simp[addr_add]
     ·exact absurd h zi
  ·exact absurd h zi
 ·rename_i e s ne
  split at h
  ·rename_i et l hh het B hh'
   have hu:=ga het
   cases ht:cH c et e with
   | false=>rw[ht]at h; exact absurd h zi
   | true =>
    obtain⟨hs,_⟩:=ko ht
    rw[ht,cond_true,yS]at h
    obtain⟨⟨h0,h1,X⟩,rfl,rfl⟩:=h
    have e1:=UY hmx
    subst e1
    have HI:=YE B hlo
    have HG:(vh=none/\(none:Option Value)=none/\hh=(s.length:Int))\/∃ k,vh=some (.int k hh):=so (CD hh' hhi) (λh=>⟨h.1,rfl,h.2⟩) id
    cases U _ rfl with
    | vD _ a0 =>
     simp only[zZ,zT]at X
     have J:=dU (P:=c.P) (isS:=true) (len:=0) (cap:=0) (mx:=none) (m:=0) HI HG (.inl ⟨rfl,rfl⟩) h0 h1 X (zF _) O.w
     have e0:l=0:=Z
     have e2:hh=0:=Z
     subst e0 e2
     refine wC.pure hI (v:=.slice a0 0 0) ?_ (.Zk rfl (.ma e a0))
     simp[zH,run_underlying hu,zL,J,run_sizeOf hs]
    | tight _ _ _ blk off f kB j9 SC hc2 =>
     obtain⟨k1,k2,k3⟩:=MP (lo:=l) (hi:=hh) (cap:=s.length) (m:=s.length) j9 SC hc2 h0 h1 X (Z) (zF _)
     have J:=dU (P:=c.P) (isS:=true) (len:=s.length) (cap:=s.length) (mx:=none) (m:=s.length) HI HG (.inl ⟨rfl,rfl⟩) h0 h1 (Z) (zF _) O.w
     have hlen:=(W8 h0 h1 X).1
     refine wC.pure hI ?_ (.Zk rfl (.sl e (jS l hh s) blk _ (s.length-l.toNat) _ j9 k3 k1 k2))
     simp only[zH,I,run_underlying hu,Y,zL,J,run_sizeOf hs,zN,hlen]
     congr 3
     split<;>simp[addr_add]
  ·exact absurd h zi
 ·rename_i b vk e off len
  split at h
  ·rename_i et l hh het B hh'
   have hu:=ga het
   cases ht:cH c et e with
   | false=>rw[ht]at h; exact absurd h zi
   | true =>
    obtain⟨hs,_⟩:=ko ht
    rw[ht,cond_true,yS]at h
    obtain⟨⟨h0,h1,X⟩,rfl,rfl⟩:=h
    have e1:=UY hmx
    subst e1
    have HI:=YE B hlo
    have HG:(vh=none/\(none:Option Value)=none/\hh=(len:Int))\/∃ k,vh=some (.int k hh):=so (CD hh' hhi) (λh=>⟨h.1,rfl,h.2⟩) id
    cases U _ rfl with
    | ms _ _ _ _ _ cap a hold jq ha WO hm =>
     have J:=dU (P:=c.P) (isS:=true) (len:=len) (cap:=cap) (mx:=none) (m:=cap) HI HG (.inl ⟨rfl,rfl⟩) h0 h1 (Z) (zF _) O.w
     refine wC.pure hI (v:=.slice (if cap=l.toNat then a else a.map (·.add (l.toNat*e.size))) (hh.toNat-l.toNat) (cap-l.toNat)) ?_ (.ms b vk e _ _ _ _ hold (Z) ?_ ?_ ?_)
     ·simp only[zH,I,run_underlying hu,Y,zL,J,run_sizeOf hs,zN]
     ·intro hn
      split at hn
      ·have:=ha hn; omega
      ·cases a with | none=>have:=ha rfl; omega | some p=>cases hn
     ·intro p hp
      split at hp
      ·exact WO p hp
      ·cases a with
       | none=>cases hp
       | some q =>
        obtain⟨q1,q2,q3⟩:=q
        have:=WO _ rfl
        simp only at this
        subst this
        simp only[Option.map_some,addr_add,Option.some.injEq]at hp
        subst hp; rfl
     ·intro xs YY
      obtain⟨hle,⟨rfl,rfl,hv,hp⟩ | ⟨r7,n',o',U8,h3,h4,h5,h6,h7⟩⟩:=hm xs YY
      ·cases hv
       have e0:l=0:=Z
       have e2:hh=0:=Z
       subst e0 e2
       exact⟨qu,.inl ⟨rfl,rfl,rfl,hp⟩⟩
      ·cases h4
       refine⟨Z,.inr ?_⟩
       by_cases Y9:cap=l.toNat
       ·refine⟨r7,n',o',0,h3,?_,Z,?_,.inl rfl⟩
        ·simp[Y9]
        ·have:(off+l.toNat+0)=off+cap:=Z
         rw[this]; exact h6
       ·refine⟨r7,n',o'+l.toNat*e.size,cap-l.toNat,h3,?_,Z,?_,.inr ?_⟩
        ·simp[Y9,addr_add]
        ·have:off+l.toNat+(cap-l.toNat)=off+cap:=Z
         rw[this]; exact h6
        ·rcases h7 with h7 | h7
         ·omega
         ·rw[h7,Nat.add_mul]
  ·exact absurd h zi
 ·exact absurd h zi
end
end Go.AM
namespace Go.AM
set_option linter.unusedSectionVars false
variable [gB]
section
variable {c:Ctx} {O:KS}
theorem Xl(op:BinOp)(t:Nat)(x y:Operand)(k k':IntKind)(a b:Int)(P:Program)(w:World):(eqGuard op t x y (.int k a) (.int k' b)).run P w=.ok () w:=by
 unfold eqGuard; split<;>simp
theorem F1(op:BinOp)(t:Nat)(x y:Operand)(a b:ByteArray)(P:Program)(w:World):(eqGuard op t x y (.string a) (.string b)).run P w=.ok () w:=by
 unfold eqGuard; split<;>simp
theorem CS(op:BinOp)(t:Nat)(x y:Operand)(a b:Bool)(P:Program)(w:World):(eqGuard op t x y (.bool a) (.bool b)).run P w=.ok () w:=by
 unfold eqGuard; split<;>simp
theorem Zl{k:IntKind}{n:Int}{st qm:St}{d:Option D}:(qt (ib k n) st).leads (d,qm)↔d=some (.qi (.int k) n)/\qm=st:=dP
theorem Xw{b:Bool}{st qm:St}{d:Option D}:(qt (bb b) st).leads (d,qm)↔d=some (.qi .bool b)/\qm=st:=dP
theorem Lj{op:BinOp}{k:IntKind}{a b:Int}{d:Option D}{st qm:St}{t:Nat}(h:(qt (Lh op k a b) st).leads (d,qm))(hs:Yd op=false) :
  ∃ y v,d=some y/\qm=st/\(binOp op t (.int k a) (.int k b)).run c.P O.w=.ok v O.w/\RD O y v:=by
 cases op<;>simp only[Lh]at h<;>try (exact absurd h zi)
 all_goals first
  | (rw[Zl]at h; obtain⟨rfl,rfl⟩:=h; exact⟨_,_,rfl,rfl,by simp[binOp,Op.intArith,Op.intBits,X4],RD.int⟩)
  | (rw[Xw]at h; obtain⟨rfl,rfl⟩:=h; exact⟨_,_,rfl,rfl,by simp[binOp,Op.intCmp],RD.bool⟩)
  | (rw[yS]at h; obtain⟨J,rfl,rfl⟩:=h; exact⟨_,_,rfl,rfl,by simp[binOp,Op.intDiv,J],RD.int⟩)
theorem H2(s:zo):(⟨s.toArray⟩:ByteArray).toList=s:=qu
theorem Lm{op:BinOp}{a b:zo}{d:Option D}{st qm:St}{t:Nat}(h:(qt (Ll op a b) st).leads (d,qm))(hs:Yd op=false) :
  ∃ y v,d=some y/\qm=st/\(binOp op t (.string ⟨a.toArray⟩) (.string ⟨b.toArray⟩)).run c.P O.w=.ok v O.w/\RD O y v:=by
 have cp:∀ s:zo,(⟨s.toArray⟩:ByteArray).size=s.length:=λ_=>rfl
 cases op<;>simp only[Ll]at h<;>try (exact absurd h zi)
 case add =>
  rw[yS]at h; obtain⟨J,rfl,rfl⟩:=h
  refine⟨_,_,rfl,rfl,?_,RD.str⟩
  have e:(⟨a.toArray⟩++⟨b.toArray⟩:ByteArray)=⟨(cat a b).toArray⟩:=by
   rfl
  have hn:¬ (IntKind.i64.max<((a.length+b.length:Nat):Int)):=by
   have:IntKind.i64.max=9223372036854775807:=qj
   omega
  simp only[binOp,Op.stringOp,cp,hn]
  rfl
 all_goals (rw[Xw]at h; obtain⟨rfl,rfl⟩:=h; exact⟨_,_,rfl,rfl,by simp[binOp,Op.stringOp,xw,strLt],RD.bool⟩)
theorem LD{P:Program}{t:Nat}(hu:P.underlying t=some .bool)(a b:Bool)(w:World):(Op.equal t (.bool a) (.bool b)).run P w=.ok (a==b) w:=by
 show(qD (9999+1) t _ _).run P w=_
 rw[qD]
 simp[run_underlying hu]
theorem MN{a:Ty}{t:Nat}(h:z9W c a t=true):(∃ k,a=.int k/\c.P.underlying t=some (.int k))\/(a=.bool/\c.P.underlying t=some .bool)\/(a=.str/\c.P.underlying t=some .string):=by
 unfold z9W at h
 grind
theorem Mo{P:Program}{t:Nat}{u:TypeDesc}(h:P.underlying t=some u)(hn:(match u with | .struct _ | .array _ _=>true | _=>false)=false)(w:World):(isAgg t).run P w=.ok false w:=by
 simp only[isAgg,I,run_underlying h]
 cases u<;>first | rfl | cases hn
theorem mM{P:Program}{t:Nat}{u:TypeDesc}(h:P.underlying t=some u)(hn:(match u with | .struct _ | .array _ _=>true | _=>false)=false)(pre:List Value)(v:Value)(cs:List Value)(w:World) :
  (part t (pre++v::cs).toArray pre.length).run P w=.ok v w:=by
 simp only[part,I,Mo h hn]
 simp
theorem Uo{w:World}{ok:Nat->Prop}(dp:Nat):∀ (τ:Ty) (a b:den τ) (off:Nat) (fs:List Field) (pre GN cs mX:List Value),Us c τ off fs=true->Rc w ok τ a cs->Rc w ok τ b mX->pre.length=off->GN.length=off ->
  (qA (dp+1) (pre++cs).toArray (GN++mX).toArray fs).run c.P w=.ok (eqT τ a b) w
 | .nil,_,_,_,fs,pre,GN,cs,mX,h,_,_,_,_=>by
  cases fs with
  | nil=>rfl
  | cons f fs=>cases h
 | .cons a r,x,y,off,fs,pre,GN,cs,mX,h,U,hy,hp,hp'=>by
  cases fs with
  | nil=>cases h
  | cons f fs =>
   have h:(decide (f.name ≠ "_")&&(zA f.offset off&&(z9W c a f.type&&Us c r (off+1) fs)))=true:=h
   simp only[zM,decide_eq_true_eq]at h
   obtain⟨h1,X,h3,h4⟩:=h
   have X:=zE X
   obtain⟨c1,c2,rfl,g1,g2⟩:=U.cons_inv
   obtain⟨e1,e2,rfl,k1,k2⟩:=hy.cons_inv
   have ih:=λv v'=>Uo dp r x.2 y.2 (off+1) fs (pre++[v]) (GN++[v']) c2 e2 h4 g2 k2 (by simp[hp]) (by simp[hp'])
   have fin:∀ (v v':Value) (q:Bool),c1=[v]->e1=[v']->(part f.type (pre++v::c2).toArray f.offset).run c.P w=.ok v w->(part f.type (GN++v'::e2).toArray f.offset).run c.P w=.ok v' w->(qD (dp+1) f.type v v').run c.P w=.ok q w->eqT a x.1 y.1=q ->
     (qA (dp+1) (pre++(c1++c2)).toArray (GN++(e1++e2)).toArray (f::fs)).run c.P w=.ok (eqT (.cons a r) x y) w:=by
    rintro v v' q rfl rfl p1 p2 p3 p4
    show(qA (dp+1) (pre++v::c2).toArray (GN++v'::e2).toArray (f::fs)).run c.P w=.ok (eqT a x.1 y.1&&eqT r x.2 y.2) w
    rw[qA,if_pos h1]
    simp only[I,p1,p2,p3,Y]
    rw[p4]
    cases q with
    | false=>rfl
    | true =>
     grind
   subst hp
   rcases MN h3 with⟨k,rfl,hu⟩ | ⟨rfl,hu⟩ | ⟨rfl,hu⟩
   ·exact fin _ _ _ g1.ev k1.ev (by rw[X]; exact mM hu rfl pre _ c2 w) (by rw[X,<- hp']; exact mM hu rfl GN _ e2 w) (run_equalIn_int w dp _ k k _ _ hu) rfl
   ·exact fin _ _ _ g1.cL k1.cL (by rw[X]; exact mM hu rfl pre _ c2 w) (by rw[X,<- hp']; exact mM hu rfl GN _ e2 w) (run_equalIn_bool' w dp _ _ _ hu) rfl
   ·refine fin _ _ _ g1.jk k1.jk (by rw[X]; exact mM hu rfl pre _ c2 w) (by rw[X,<- hp']; exact mM hu rfl GN _ e2 w) (run_equalIn_string w dp _ _ _ hu) ?_
    rw[H2,H2]
    rfl
 | .int _,_,_,_,_,_,_,_,_,h,_,_,_,_=>by simp[Us]at h
 | .bool,_,_,_,_,_,_,_,_,h,_,_,_,_=>by simp[Us]at h
 | .str,_,_,_,_,_,_,_,_,h,_,_,_,_=>by simp[Us]at h
 | .sl _,_,_,_,_,_,_,_,_,h,_,_,_,_=>by simp[Us]at h
 | .expr,_,_,_,_,_,_,_,_,h,_,_,_,_=>by simp[Us]at h
theorem LC{op:BinOp}{t:Nat}{px py:Operand}{x y:Option D}{v u:Value}{d:Option D}{qm:St}(hI:Inv O)(U:∀ z,x=some z->RD O z v)(hy:∀ z,y=some z->RD O z u)
  (h:(qt (z0P c op t x y) O.st).leads (d,qm)):wC c.P (do zG (.value (<- (do eqGuard op t px py v u; binOp op t v u)))) O d qm:=by
 unfold z0P at h
 split at h
 ·rename_i τ a σ b
  split at h
  ·rename_i b' J
   unfold jY at J
   split at J
   ·rename_i e
    subst e
    injection J with J
    subst J
    cases hg:σ.isAgg&&H3 c σ t with
    | false=>rw[hg]at h; exact absurd h zi
    | true =>
     rw[hg,cond_true]at h
     rw[zM]at hg
     obtain⟨hag,hso⟩:=hg
     unfold H3 at hso
     split at hso
     ·rename_i fs hu
      simp at hso
      obtain⟨f1,f2,f3⟩:=hso
      have hfo:c.P.fieldsOf t=fs:=by unfold Program.fieldsOf; rw[hu]
      cases U _ rfl with
      | qi _ _ cs g1 =>
      cases hy _ rfl with
      | qi _ _ mX g2 =>
       have e1:pk σ cs=.agg cs.toArray:=by unfold pk; rw[if_pos hag]
       have e2:pk σ mX=.agg mX.toArray:=by unfold pk; rw[if_pos hag]
       have hr:=Uo (c:=c) 9998 σ a b 0 fs.toList [] [] cs mX f1 g1 g2 rfl rfl
       have hq:(qD 10000 t (.agg cs.toArray) (.agg mX.toArray)).run c.P O.w=.ok (eqT σ a b) O.w:=by
        rw[show(10000:Nat)=9999+1 from rfl,run_equalIn_agg O.w 9999 t _ _ (wa) f2,hfo]
        exact hr
       rw[e1,e2]
       cases op<;>try (exact absurd h zi)
       ·rw[Xw]at h; obtain⟨rfl,rfl⟩:=h
        refine wC.pure hI ?_ RD.bool
        simp only[I,run_eqGuard_agg O.w _ t px py _ _ f3,Y,run_eql_struct,hq]
       ·rw[Xw]at h; obtain⟨rfl,rfl⟩:=h
        refine wC.pure hI ?_ RD.bool
        simp only[I,run_eqGuard_agg O.w _ t px py _ _ f3,Y,run_neq_struct,hq]
     ·cases hso
   ·cases J
  ·exact absurd h zi
 ·exact absurd h zi
theorem YC{op:BinOp}{t:Nat}{px py:Operand}{x y:Option D}{v u:Value}{d:Option D}{qm:St}(hI:Inv O)(U:∀ z,x=some z->RD O z v)(hy:∀ z,y=some z->RD O z u)
  (h:(qt (YB c op t x y) O.st).leads (d,qm)):wC c.P (do zG (.value (<- (do eqGuard op t px py v u; binOp op t v u)))) O d qm:=by
 unfold YB at h
 split at h
 ·rename_i k a k' b hk Yb
  have:=kI hk U
  subst this
  have:=kI Yb hy
  subst this
  split at h
  ·rw[yS]at h
   obtain⟨J,rfl,rfl⟩:=h
   refine wC.pure hI ?_ RD.int
   simp only[I,Xl,Y,binOp,Op.shift,if_neg (show ¬ b<0 by omega)]
   rfl
  ·rw[yS]at h
   obtain⟨J,rfl,rfl⟩:=h
   refine wC.pure hI ?_ RD.int
   simp only[I,Xl,Y,binOp,Op.shift,if_neg (show ¬ b<0 by omega)]
   rfl
  ·rename_i n1 n2
   cases he:decide (k=k')with
   | false=>rw[he]at h; exact absurd h zi
   | true =>
    have LU:=uY he
    subst LU
    rw[he,cond_true]at h
    obtain⟨y',v',rfl,rfl,h1,X⟩:=Lj (c:=c) (O:=O) (t:=t) h (by cases op<;>first | rfl | (exact absurd rfl n1) | (exact absurd rfl n2))
    exact wC.pure hI (by simp only[I,Xl,Y,h1]) X
 ·split at h
  ·rename_i a b ha J
   have:=X3 ha U
   subst this
   have:=X3 J hy
   subst this
   cases hs:Yd op with
   | true=>rw[hs]at h; exact absurd h zi
   | false =>
    rw[hs,cond_false]at h
    obtain⟨y',v',rfl,rfl,h1,X⟩:=Lm (c:=c) (O:=O) (t:=t) h hs
    exact wC.pure hI (by simp only[I,F1,Y,h1]) X
  ·split at h
   ·rename_i a b hu ha J
    have:=Z6 ha U
    subst this
    have:=Z6 J hy
    subst this
    cases op<;>simp only[z0Q]at h<;>try (exact absurd h zi)
    all_goals
     rw[Xw]at h; obtain⟨rfl,rfl⟩:=h
     refine wC.pure hI ?_ RD.bool
     simp only[I,CS,Y,binOp,LD hu,zN]
   ·exact LC hI U hy h
theorem za8{op:UnOp}{x:Option D}{v:Value}{d:Option D}{qm:St}(hI:Inv O)(U:∀ z,x=some z->RD O z v)
  (h:(qt (z4u op x) O.st).leads (d,qm)):wC c.P (do zG (.value (<- Op.unary op v))) O d qm:=by
 unfold z4u at h
 split at h
 ·split at h
  ·rename_i k n hk
   have:=kI hk U
   subst this
   obtain⟨rfl,rfl⟩:=h
   exact wC.pure hI (by rfl) RD.int
  ·exact absurd h zi
 ·split at h
  ·rename_i b J
   have:=Z6 J U
   subst this
   obtain⟨rfl,rfl⟩:=h
   exact wC.pure hI (by rfl) RD.bool
  ·exact absurd h zi
 ·split at h
  ·rename_i k n hk
   have:=kI hk U
   subst this
   obtain⟨rfl,rfl⟩:=h
   exact wC.pure hI (by rfl) RD.int
  ·exact absurd h zi
 ·exact absurd h zi
theorem z7E{t ty:Nat}{ts:Array Nat}{x:Option D}{v:Value}{vs:Array Value}{d:Option D}{qm:St}(hI:Inv O)(U:∀ z,x=some z->RD O z v)(ht:ts[0]? = some t)(hv:vs[0]? = some v)
  (h:(qt (z1X c t x) O.st).leads (d,qm)):wC c.P (do zG (.value (<- zV ts ty vs))) O d qm:=by
 unfold z1X at h
 split at h
 ·rename_i e hu
  have key:∀ (n:Nat) (a:Option Addr) (cap:Nat),v=.slice a n cap->d=some (.qi (.int .i64) (n:Int))->qm=O.st->wC c.P (do zG (.value (<- zV ts ty vs))) O d qm:=by
   rintro n a cap rfl rfl rfl
   exact wC.pure hI (by simp[zV,ht,hv,run_underlying hu,goInt]) RD.int
  split at h
  ·rename_i e' l
   rw[Zl]at h
   rcases((U _ rfl).jQ rfl).tY with⟨rfl,a0,he⟩ | ⟨blk,off,cap,f,he,_⟩
   ·grind
   ·grind
  ·rename_i e' l ne
   rw[Zl]at h
   cases U _ rfl with
   | vD _ a0=>grind
   | tight=>grind
  ·rw[Zl]at h
   cases U _ rfl
   grind
  ·rw[Zl]at h
   cases U _ rfl
   grind
  ·exact absurd h zi
 ·rename_i hu
  split at h
  ·rename_i s hs
   have:=X3 hs U
   subst this
   obtain⟨rfl,rfl⟩:=h
   have cp:(⟨s.toArray⟩:ByteArray).size=s.length:=rfl
   exact wC.pure hI (by simp only[zV,ht,hv,I,run_underlying hu,Y,goInt,cp,zN]) RD.int
  ·exact absurd h zi
 ·exact absurd h zi
theorem Mg{f:Int->Int->Int}{g:Value->Value->Sem Value}{P:Program}(hg:∀ k k' a b,(g (.int k a) (.int k' b)).run P O.w=.ok (.int k (f a b)) O.w){x y:Option D}{v u:Value}{d:Option D}{qm:St}
  (hI:Inv O) (U:∀ z,x=some z->RD O z v) (hy:∀ z,y=some z->RD O z u) (h:(qt (Gt f [x,y]) O.st).leads (d,qm)) :
  ∃ r,(g v u).run P O.w=.ok r O.w/\qm=O.st/\∀ d',d=some d'->RD O d' r:=by
 unfold Gt at h
 simp only at h
 split at h
 ·rename_i k a k' b hk Yb
  have:=kI hk U
  subst this
  have:=kI Yb hy
  subst this
  cases he:decide (k=k')with
  | false=>rw[he]at h; exact absurd h zi
  | true =>
   rw[he,cond_true,Zl]at h
   obtain⟨rfl,rfl⟩:=h
   exact⟨_,hg k k' a b,rfl,λd' he=>by cases he; exact RD.int⟩
 ·exact absurd h zi
theorem CU{x:Option D}{i:Nat}{v:Value}{d:Option D}{qm:St}(hI:Inv O)(U:∀ z,x=some z->RD O z v)
  (h:(qt (JB x i) O.st).leads (d,qm)):wC c.P (do zG (.value (<- Instr.extract v i))) O d qm:=by
 unfold JB at h
 split at h
 ·rename_i vs
  obtain⟨y,hy,rfl,rfl⟩:=Gj h
  cases U _ rfl with
  | eZ _ us B hh =>
   obtain⟨u,h1,X⟩:=wQ.get (⟨B,hh⟩:wQ O vs us) hy
   exact wC.pure hI (by simp[Instr.extract,h1]) X
 ·exact absurd h zi
theorem p7:∀ {l:List (Option D)} {ds:List D},gQ l=some ds->l=ds.map some
 | [],ds,h=>by simp[gQ]at h; subst h; rfl
 | some d::r,ds,h=>by
  simp only[gQ]at h
  split at h
  ·rename_i l B; cases h; simp[p7 B]
  ·cases h
 | none::r,ds,h=>by simp[gQ]at h
theorem ig{l:List (Option D)}{ds:List D}{vs:List Value}(h:gQ l=some ds)(B:l.length=vs.length)
  (hr:∀ (i:Nat) (d:D) (v:Value),l[i]? = some (some d)->vs[i]? = some v->RD O d v):wQ O ds vs:=by
 have:=p7 h
 subst this
 refine⟨wa,λi h1 X=>hr i _ _ ?_ (zP X)⟩
 simp
end
end Go.AM
namespace Go.AM
namespace T
variable {α β γ:Type}
theorem mH{t:T α}{x y:α}(h:t.leads x)(k:t.leads y):x=y:=by
 induction t with
 | ret a=>exact h.symm.trans k
 | ite b p q ip iq =>
  rcases h with⟨h1,h⟩ | ⟨h1,h⟩<;>rcases k with⟨k1,k⟩ | ⟨k1,k⟩
  ·grind
  ·grind
  ·grind
  ·grind
 | zl p t ih=>exact ih h.2 k.2
 | fail=>exact h.elim
theorem zg{t:T α}{f:α->T β}{x:β}:(t.bind f).leads x↔∃ a,t.leads a/\(f a).leads x:=by
 induction t with
 | ret a=>exact⟨λh=>⟨a,rfl,h⟩,λ⟨b,h,k⟩=>by cases h; exact k⟩
 | ite b p q ip iq =>
  constructor
  ·rintro(⟨h1,h⟩ | ⟨h1,h⟩)
   ·obtain⟨a,k1,k2⟩:=ip.1 h; exact⟨a,.inl ⟨h1,k1⟩,k2⟩
   ·obtain⟨a,k1,k2⟩:=iq.1 h; exact⟨a,.inr ⟨h1,k1⟩,k2⟩
  ·rintro⟨a,⟨h1,k1⟩ | ⟨h1,k1⟩,k2⟩
   ·exact .inl ⟨h1,ip.2 ⟨a,k1,k2⟩⟩
   ·exact .inr ⟨h1,iq.2 ⟨a,k1,k2⟩⟩
 | zl p t ih =>
  constructor
  ·rintro⟨h1,h⟩; obtain⟨a,k1,k2⟩:=ih.1 h; exact⟨a,⟨h1,k1⟩,k2⟩
  ·rintro⟨a,⟨h1,k1⟩,k2⟩; exact⟨h1,ih.2 ⟨a,k1,k2⟩⟩
 | fail=>exact⟨λh=>h.elim,λ⟨_,h,_⟩=>h.elim⟩
open Classical in
noncomputable def run:T α->Option α
 | ret a=>some a
 | ite b t e=>bif b then t.run else e.run
 | zl p t=>if p then t.run else none
 | fail=>none
@[simp] theorem xz(a:α):(ret a).run=some a:=rfl
@[simp] theorem zme:(fail:T α).run=none:=rfl
theorem run_ite(b:Bool)(t e:T α):(ite b t e).run=if b=true then t.run else e.run:=by cases b<;>rfl
@[simp] theorem J9(t e:T α):(ite true t e).run=t.run:=rfl
@[simp] theorem V1(t e:T α):(ite false t e).run=e.run:=rfl
theorem xe{p:Prop}(h:p)(t:T α):(zl p t).run=t.run:=by simp only[run,if_pos h]
theorem vM{b:Bool}(h:b=true)(t e:T α):(ite b t e).run=t.run:=by rw[h]; rfl
theorem je{b:Bool}(h:b=false)(t e:T α):(ite b t e).run=e.run:=by rw[h]; rfl
theorem yT{t:T α}{x:α}:t.run=some x↔t.leads x:=by
 induction t with
 | ret a=>simp[leads]
 | ite b p q ip iq=>cases b<;>simp[leads,ip,iq]
 | zl p t ih=>by_cases h:p<;>simp[run,leads,ih]
 | fail=>simp[leads]
theorem run_bind(t:T α)(f:α->T β):(t.bind f).run=t.run.bind λa=>(f a).run:=by
 induction t with
 | ret a=>rfl
 | ite b p q ip iq=>cases b<;>simp[bind,ip,iq]
 | zl p t ih=>by_cases h:p<;>simp[run,bind,h,ih]
 | fail=>rfl
theorem zq{t:T α}{a:α}(h:t.run=some a)(f:α->T β):(t.bind f).run=(f a).run:=by rw[run_bind,h]; rfl
section loop
variable {σ ρ:Type} (r:σ->T (σ⊕ρ))
inductive Iter:Nat->σ->ρ->Prop
 | done {s:σ} {x:ρ} (h:(r s).leads (.inr x)):Iter 0 s x
 | step {n:Nat} {s s':σ} {x:ρ} (h:(r s).leads (.inl s')) (k:Iter n s' x):Iter (n+1) s x
theorem Iter.det{r:σ->T (σ⊕ρ)}{n m:Nat}{s:σ}{x y:ρ}(h:Iter r n s x)(k:Iter r m s y):x=y:=by
 induction h generalizing m y with
 | done h =>
  cases k with
  | done k=>have:=mH h k; cases this; rfl
  | step k _=>have:=mH h k; cases this
 | step h _ ih =>
  cases k with
  | done k=>have:=mH h k; cases this
  | step k k2=>have:=mH h k; cases this; exact ih k2
open Classical in
noncomputable def loop (s:σ):T ρ:=if h:∃ x n,Iter r n s x then .ret h.choose else .fail
theorem fE{s:σ}{x:ρ}:(loop r s).leads x↔∃ n,Iter r n s x:=by
 unfold loop
 split
 ·rename_i h
  obtain⟨n,hn⟩:=h.choose_spec
  constructor
  ·intro U; cases U; exact⟨n,hn⟩
  ·rintro⟨m,hm⟩; exact hn.det hm
 ·rename_i h
  exact⟨λk=>k.elim,λ⟨n,hn⟩=>h ⟨x,n,hn⟩⟩
theorem sd{r:σ->T (σ⊕ρ)}(zC:σ->Prop)(μ:σ->Nat)(f:σ->ρ)
  (h:∀ s,zC s->(∃ s',(r s).run=some (.inl s')/\zC s'/\μ s'<μ s/\f s'=f s)\/(r s).run=some (.inr (f s))) {s:σ} (hs:zC s):(loop r s).run=some (f s):=by
 rw[yT,fE]
 generalize hm:μ s=m
 induction m using Nat.strongRecOn generalizing s with
 | _ m ih =>
  rcases h s hs with⟨s',h1,X,h3,h4⟩ | h1
  ·obtain⟨n,hn⟩:=ih (μ s') (Z) X rfl
   exact⟨n+1,.step (yT.1 h1) (h4▸hn)⟩
  ·exact⟨0,.done (yT.1 h1)⟩
theorem Zm{r:σ->T (σ⊕ρ)}{s s':σ}(h:(r s).run=some (.inl s')):(loop r s).run=(loop r s').run:=by
 have h':=yT.1 h
 apply Option.ext
 intro x
 show(loop r s).run=some x↔(loop r s').run=some x
 rw[yT,yT,fE,fE]
 constructor
 ·rintro⟨n,hn⟩
  cases hn with
  | done k=>have:=mH h' k; cases this
  | step k k2=>have:=mH h' k; cases this; exact⟨_,k2⟩
 ·rintro⟨n,hn⟩; exact⟨n+1,.step h' hn⟩
theorem fX{r:σ->T (σ⊕ρ)}{s:σ}{x:ρ}(h:(r s).run=some (.inr x)):(loop r s).run=some x:=by
 rw[yT,fE]; exact⟨0,.done (yT.1 h)⟩
end loop
section fix
variable {σ ρ:Type} (b:(σ->T ρ)->σ->T ρ)
def WM:Nat->σ->T ρ
 | 0,_=>.fail
 | n+1,x=>b (WM n) x
open Classical in
noncomputable def fix (x:σ):T ρ:=if h:∃ y n,∀ m,n<=m->(WM b m x).leads y then .ret h.choose else .fail
theorem mF{x:σ}{y:ρ}:(fix b x).leads y↔∃ n,∀ m,n<=m->(WM b m x).leads y:=by
 unfold fix
 split
 ·rename_i h
  obtain⟨n,hn⟩:=h.choose_spec
  constructor
  ·intro U; cases U; exact⟨n,hn⟩
  ·rintro⟨k,hk⟩; exact mH (hn (max n k) (Z)) (hk (max n k) (Z))
 ·rename_i h
  exact⟨λk=>k.elim,λ⟨n,hn⟩=>h ⟨y,n,hn⟩⟩
end fix
def J2:T α->Option Prop
 | ret _=>none
 | ite b t e=>match t.J2,e.J2 with
  | none,none=>none
  | some p,none=>some (b=true->p)
  | none,some q=>some (b=false->q)
  | some p,some q=>some ((b=true->p)/\(b=false->q))
 | zl p t=>match t.J2 with
  | none=>some p
  | some q=>some (p/\q)
 | fail=>some False
def val(d:α):T α->α
 | ret a=>a
 | ite b t e=>bif b then t.val d else e.val d
 | zl _ t=>t.val d
 | fail=>d
def flat(d:α)(t:T α):T α:=match t.J2 with
 | none=>.ret (t.val d)
 | some p=>.zl p (.ret (t.val d))
def KV(t:T α):Prop:=match t.J2 with | none=>True | some p=>p
theorem GO(d:α)(t:T α)(x:α):t.leads x↔t.KV/\t.val d=x:=by
 induction t with
 | ret a=>simp[leads,KV,J2,val]
 | ite b p q ip iq =>
  cases b
  ·simp only[leads,val,iq]
   unfold KV
   simp only[J2]
   grind
  ·simp only[leads,val,ip]
   unfold KV
   simp only[J2]
   grind
 | zl p t ih =>
  simp only[leads,ih,val]
  unfold KV
  simp only[J2]
  grind
 | fail=>simp[leads,KV,J2]
end T
abbrev ql(x:Int):Int:=zX .i64 x
abbrev wm(x:Int):Int:=zX .u64 x
abbrev ba(x:Int):Int:=zX .u32 x
abbrev wu8(x:Int):Int:=zX .u8 x
def zu(vk off len n:Nat):Prop:=vk=n/\off=0/\len=n
def xb(i:Int)(n:Nat):Prop:=0<=i/\i<(n:Int)
def uT(vk dZ idx n:Nat):Prop:=vk=dZ/\idx<n
def ub(vk dZ off len n m bytes:Nat):Prop:=vk=dZ/\off=0/\len=n/\(n+m)*bytes<=140737488355328
def jJ(l h:Int)(n:Nat):Prop:=0<=l/\l<=h/\h<=(n:Int)
def zmi(l h m:Int)(n:Nat):Prop:=0<=l/\l<=h/\h=m/\h<=(n:Int)
def HX(l:zo):Nat->zo
 | 0=>[]
 | c+1=>l++HX l c
def HA(u:Nat):zo:=if h:u<10 then[UInt8.ofNat (48+u)]else HA (u / 10)++[UInt8.ofNat (48+u % 10)]
termination_by u
decreasing_by omega
def Kh(n:Int):zo:=if n<0 then 45::HA n.natAbs else HA n.toNat
def WQ:zo->zo->Int
 | [],sub=>if sub.isEmpty then 0 else -1
 | b::l,sub=>if sub.isPrefixOf (b::l)then 0 else if WQ l sub == -1 then -1 else WQ l sub+1
def Uy:zo->UInt8->Int
 | [],_ => -1
 | b::l,c=>if b==c then 0 else if Uy l c == -1 then -1 else Uy l c+1
def Ue(s sep:zo):zo×zo×Bool:=if 0<=WQ s sep then(s.take (WQ s sep).toNat,s.drop ((WQ s sep).toNat+sep.length),true)else(s,[],false)
def DV(s p:zo):zo:=if List.isPrefixOf p s=true then s.drop p.length else s
def mh(s:zo):den (nu .bool 256):=S6 (e:=.bool) (λj=>s.contains (UInt8.ofNat j)) 256 0
def Xb(v v' o l n:Nat):Prop:=v=v'/\o+l<=n
def Dl(a b:Nat):Nat:=min a b
def eY(n m:Int)(bytes:Nat):Prop:=0<=n/\n<=m/\m*bytes<=140737488355328/\m<=140737488355328
def nth{α:Type}(l:List α)(i:Int)(d:α):α:=zR l i.toNat d
def wo{α:Type}(l:List α)(i:Nat)(d:α):α:=zR l i d
def vz(s:zo)(i:Int):Int:=((zR s i.toNat 0).toNat:Int)
def Hu(k:IntKind)(x y:Int):Int:=X4 k (· &&& ·) x y
def HU(k:IntKind)(x y:Int):Int:=X4 k (· ||| ·) x y
def N9(k:IntKind)(x y:Int):Int:=X4 k (· ^^^ ·) x y
def z4n(l:List Int):T (zo×Unit):=.zl ((∀ n∈l,(0:Int)<=n/\n<256)/\W l<=140737488355328) (.ret (jb l,()))
end Go.AM
namespace Go.AM
def z3V(b:UInt8):List zo->List zo
 | []=>[[b]]
 | x::y=>(b::x)::y
def eO(c:UInt8):zo->List zo
 | []=>[[]]
 | b::r=>if b=c then[]::eO c r else z3V b (eO c r)
def cj(c:UInt8):zo->zo->List zo
 | cur,[]=>if cur=[]then[]else[cur]
 | cur,b::r=>if b=c then(if cur=[]then cj c [] r else cur::cj c [] r)else cj c (cur++[b]) r
def rS:zo->zo->Int
 | [],_ => -1
 | b::l,chars=>if chars.contains b then 0 else if rS l chars == -1 then -1 else rS l chars+1
abbrev oI{A oE:Type}(i:Int)(l:List A)(t:T oE):T oE:=.zl (xb i l.length) t
abbrev R{A oE:Type}(l:List A)(t:T oE):T oE:=.zl (l.length=l.length) t
abbrev oC{A oE:Type}(l:List A)(t:T oE):T oE:=.zl (zu l.length 0 l.length l.length) t
abbrev oM{oE:Type}(a b:Nat)(t:T oE):T oE:=.zl (zu a 0 a b) (.zl (a=b) t)
abbrev oA{A oE:Type}(l:List A)(k:Nat)(t:T oE):T oE:=.zl (ub l.length l.length 0 l.length l.length 1 k) t
abbrev oK{oE:Type}(a b:zo)(t:T oE):T oE:=.zl (a.length+b.length<=4611686018427387904) t
abbrev oZ{oE:Type}(t:T oE):T oE:=.zl (zu 0 0 0 0) (.zl ((0:Nat)=0) t)
abbrev oV{A hl C D κ' F oE:Type}(a:List A)(b:List hl)(c:List C)(d:List D)(e:List κ')(f:List F)(t:T oE):T oE:=oC a (oC b (oC c (oC d (oC e (oC f t)))))
abbrev oW{A hl C D κ' F oE:Type}(a:List A)(b:List hl)(c:List C)(d:List D)(e:List κ')(f:List F)(t:T oE):T oE:=R a (R b (R c (R d (R e (R f t)))))
abbrev oY{A hl C D κ' F oE:Type}(a:List A)(b:List hl)(c:List C)(d:List D)(e:List κ')(f:List F)(t:T oE):T oE:=oV a b c d e f (oW a b c d e f t)
end Go.AM
namespace Go.AM
namespace T
variable {α β:Type}
attribute [simp] run_bind
@[simp] theorem J8(b:Bool)(t e:T α):(ite b t e).run=if b=true then t.run else e.run:=run_ite b t e
@[simp] theorem vF{i:Int}{n:Nat}(t:T α)(h1:0<=i)(X:i<(n:Int)):(zl (xb i n) t).run=t.run:=xe ⟨h1,X⟩ t
@[simp] theorem ij{v v' i n:Nat}(t:T α)(h1:v=v')(X:i<n):(zl (uT v v' i n) t).run=t.run:=xe ⟨h1,X⟩ t
@[simp] theorem zn2{v v' o l n m b:Nat}(t:T α)(h1:v=v')(X:o=0)(h3:l=n)(h4:(n+m)*b<=140737488355328):(zl (ub v v' o l n m b) t).run=t.run:=xe ⟨h1,X,h3,h4⟩ t
@[simp] theorem bI{v o l n:Nat}(t:T α)(h1:v=n)(X:o=0)(h3:l=n):(zl (zu v o l n) t).run=t.run:=xe ⟨h1,X,h3⟩ t
@[simp] theorem XN{l h:Int}{n:Nat}(t:T α)(h1:0<=l)(X:l<=h)(h3:h<=(n:Int)):(zl (jJ l h n) t).run=t.run:=xe ⟨h1,X,h3⟩ t
@[simp] theorem run_mk{n m:Int}{b:Nat}(t:T α)(h1:0<=n)(X:n<=m)(h3:m*b<=140737488355328)(h4:m<=140737488355328):(zl (eY n m b) t).run=t.run:=xe ⟨h1,X,h3,h4⟩ t
@[simp] theorem z9V{v v' o l n:Nat}(t:T α)(h1:v=v')(X:o+l<=n):(zl (Xb v v' o l n) t).run=t.run:=xe ⟨h1,X⟩ t
@[simp] theorem gA{a b:Nat}(t:T α)(h:a=b):(zl (a=b) t).run=t.run:=xe h t
@[simp] theorem zn3{a b:Nat}(t:T α)(h:a<=b):(zl (a<=b) t).run=t.run:=xe h t
@[simp] theorem lI{a b:Int}(t:T α)(h:a<=b):(zl (a<=b) t).run=t.run:=xe h t
@[simp] theorem tH{a b:Int}(t:T α)(h:a≠b):(zl (a≠b) t).run=t.run:=xe h t
@[simp] theorem zqK{A:Type}{i:Int}{l:List A}(t:T α)(h1:0<=i)(X:i<(l.length:Int)):(oI i l t).run=t.run:=xe ⟨h1,X⟩ t
@[simp] theorem zqJ{A:Type}(l:List A)(t:T α):(R l t).run=t.run:=xe rfl t
@[simp] theorem zqI{A:Type}(l:List A)(t:T α):(oC l t).run=t.run:=xe ⟨rfl,rfl,rfl⟩ t
@[simp] theorem zqM{a b:Nat}(t:T α)(h:a=b):(oM a b t).run=t.run:=(xe ⟨h,rfl,h⟩ _).trans (xe h t)
@[simp] theorem zqH{A:Type}{l:List A}{k:Nat}(t:T α)(h:(l.length+1)*k<=140737488355328):(oA l k t).run=t.run:=xe ⟨rfl,rfl,rfl,h⟩ t
@[simp] theorem zqL{a b:zo}(t:T α)(h:a.length+b.length<=4611686018427387904):(oK a b t).run=t.run:=xe h t
@[simp] theorem GX(t:T α):(zl True t).run=t.run:=xe trivial t
end T
@[simp] theorem qv{x:Int}(h1 : -9223372036854775808<=x)(X:x<=9223372036854775807):ql x=x:=IntWalk.i64_in x ⟨h1,X⟩
@[simp] theorem zeJ{x:Int}(h1:0<=x)(X:x<=255):wu8 x=x:=IntWalk.u8_in x ⟨h1,X⟩
@[simp] theorem Ry{x:Int}(h1:0<=x)(X:x<=4294967295):ba x=x:=IntWalk.u32_in x ⟨h1,X⟩
@[simp] theorem bf{x:Int}(h1:0<=x)(X:x<=18446744073709551615):wm x=x:=IntWalk.u64_in x ⟨h1,X⟩
theorem ZC(x:Int):ba x=x % 4294967296:=IntKind.wrap_u32 x
theorem IH(x:Int):wm x=x % 18446744073709551616:=IntKind.wrap_u64 x
theorem YP{α:Type}(l:List α)(d:α){i:Int}(h0:0<=i)(hi:i<(l.length:Int)):l.drop i.toNat=nth l i d::l.drop (i+1).toNat:=by
 unfold nth
 have wO:i.toNat<l.length:=Z
 have e:(i+1).toNat=i.toNat+1:=Z
 rw[e,List.drop_eq_getElem_cons wO]
 simp[List.getD_eq_getElem?_getD,wO]
theorem EX{α:Type}(l:List α){i:Int}(hi:¬ i<(l.length:Int)):l.drop i.toNat=[]:=zY (Z)
namespace T
variable {σ ρ α β:Type}
theorem BF{r:σ->T (σ⊕ρ)}(l:List α)(d:α)(e:β->Int->σ)(zC:β->List α->Prop)(f:List α->β->ρ)
  (step:∀ (b:β) (x:α) (xs:List α) (i:Int),0<=i->i<(l.length:Int)->nth l i d=x->zC b (x::xs) ->
   (∃ b',(r (e b i)).run=some (.inl (e b' (i+1)))/\zC b' xs/\f xs b'=f (x::xs) b)\/(r (e b i)).run=some (.inr (f (x::xs) b)))
  (done:∀ b,zC b []->(r (e b (l.length:Int))).run=some (.inr (f [] b))) {b:β} (hI:zC b l):(loop r (e b 0)).run=some (f l b):=by
 have key:∀ (xs:List α) (i:Nat) (b:β),l.drop i=xs->i<=l.length->zC b xs->(loop r (e b (i:Int))).run=some (f xs b):=by
  intro xs
  induction xs with
  | nil =>
   intro i b V hi J
   have:i=l.length:=by have:=List.drop_eq_nil_iff.1 V; omega
   subst this
   exact fX (done b J)
  | cons x xs ih =>
   intro i b V hi J
   have wO:i<l.length:=by
    rcases Nat.lt_or_ge i l.length with h | h
    ·exact h
    ·rw[zY h]at V; cases V
   have dM:=YP l d (i:=(i:Int)) (Z) (Z)
   have e1:((i:Int)+1).toNat=i+1:=Z
   simp only[Int.toNat_natCast,e1]at dM
   rw[V]at dM
   obtain⟨h1,X⟩:=List.cons.inj dM
   rcases step b x xs i (Z) (Z) (by rw[h1]) J with⟨b',g1,g2,g3⟩ | g1
   ·rw[Zm g1,<- g3]
    have:=ih (i+1) b' X.symm (Z) g2
    simpa using this
   ·exact fX g1
 exact key l 0 b (qu) (Nat.zero_le _) hI
end T
end Go.AM