/-
  The abstract machine, part A: texts of our own, the same for each claim.
-/
import Derived.WalkKit
import Derived.Maps.OwnOps
import Derived.Maps.Views
import Derived.Laws.StructEq
set_option linter.unusedVariables false
open Nat renaming beq -> B, eq_of_beq_eq_true -> zE, le_refl -> zF, blt -> zI, ble -> zJ, le_of_ble_eq_true -> zK, le_trans -> zS
open Go.Result renaming andThen_ok -> E
open Go.Sem renaming run_bind -> X, run_pure -> zN
open List renaming length -> V, getElem?_eq_getElem -> zP, getD -> zR, length_nil -> zY
open Pure renaming pure -> zG
open Go.Instr renaming sliceAt -> zH, slice -> zL, indexAt -> zO, sureAddr -> zQ, sliceBounds -> zU, loadAt -> zW, fieldAt -> qB, field -> qD
open Bool renaming and_eq_true -> zM
open Int renaming cast_ofNat_Int -> zT
open Go.Builtin renaming len_ -> zV
open Go.IntKind renaming wrap -> zX
open Go.Op renaming eqFields -> zZ, equalIn -> qC
open Go.Value renaming cells -> qA
namespace Go
theorem O{p:Prop}(h:p:=by omega):p:=h
theorem xn{p:Prop}(h:p:=by decide):p:=h
theorem qz{p:Prop}(h:p:=by simp):p:=h
theorem xz{p:Prop}(h:p:=by grind):p:=h
theorem uA{p:Prop}[Decidable p](h:decide p=true):p:=of_decide_eq_true h
theorem gm{p:Prop}[Decidable p](h:decide p=false):Not p:=of_decide_eq_false h
end Go
namespace Go.AM
theorem rN{a b c d:Prop}(h:a\/b)(f:a->c)(g:b->d):c\/d:=xz
abbrev zx:=List UInt8
inductive Ty where
 | int (k:IntKind) | bool | str | sl (e:Ty) | nil | cons (a b:Ty) | expr
 deriving DecidableEq
inductive Expr where
 | mk (kind:Int) (num:Bool×List Int×List Int×Unit) (name:zx) (kids:List Expr)
def Expr.kind:Expr->Int | .mk k _ _ _=>k
def Expr.num:Expr->Bool×List Int×List Int×Unit | .mk _ n _ _=>n
def Expr.name:Expr->zx | .mk _ _ n _=>n
def Expr.kids:Expr->List Expr | .mk _ _ _ l=>l
@[reducible] def den:Ty->Type
 | .int _=>Int
 | .bool=>Bool
 | .str=>zx
 | .sl e=>List (den e)
 | .nil=>Unit
 | .cons a b=>den a×den b
 | .expr=>Expr
abbrev u32:Ty:=.int .u32
abbrev i64:Ty:=.int .i64
abbrev Bu:Ty:=.cons .bool (.cons (.sl u32) (.cons (.sl u32) .nil))
abbrev JD:Ty:=.cons i64 (.cons Bu (.cons .str (.cons (.sl .expr) .nil)))
def Expr.z09(e:Expr):den JD:=(e.kind,e.num,e.name,e.kids,())
def Expr.Lo(x:den JD):Expr:=.mk x.1 x.2.1 x.2.2.1 x.2.2.2.1
def Ty.size:Ty->Nat
 | .int _ | .bool | .str | .sl _=>1
 | .nil=>0
 | .cons a b=>a.size+b.size
 | .expr=>6
def Ty.isAgg:Ty->Bool
 | .nil | .cons _ _ | .expr=>true
 | _=>false
def zb:(τ:Ty)->den τ
 | .int _=>(0:Int)
 | .bool=>false
 | .str=>([]:zx)
 | .sl e=>([]:List (den e))
 | .nil=>()
 | .cons a b=>(zb a,zb b)
 | .expr=>.mk 0 (false,[],[],()) [] []
inductive D where
 | qi (τ:Ty) (x:den τ)
 | tight (e:Ty) (l:List (den e)) (ne:Bool)
 | so (e:Ty) (l:List (den e)) (b:Bool)
 | wF | gX | v8 | gj | uT
 | ptr (b off:Nat)
 | vz (τ:Ty) (x:den τ)
 | gJ (b vi:Nat) (e:Ty) (idx off:Nat)
 | ms (b vi:Nat) (e:Ty) (off len:Nat)
 | wi (f:Nat) (cap:List D)
 | agg (cs:List D)
 | eG (vs:List D)
 | iface (t:Nat) (d:D)
 | WI
 | en (b T:Nat)
 | mP (T:Nat)
 | yL (b:Nat)
 | Bm (l:List Int)
inductive cL where
 | dead
 | var (d:D)
 | arr (vi:Nat) (e:Ty) (xs:List (den e))
abbrev St:=List cL
inductive T(α:Type) where
 | ret (a:α)
 | ite (b:Bool) (t e:T α)
 | W (p:Prop) (t:T α)
 | fail
namespace T
variable {α β:Type}
def bind:T α->(α->T β)->T β
 | ret a,k=>k a
 | ite b t e,k=>ite b (t.bind k) (e.bind k)
 | W p t,k=>W p (t.bind k)
 | fail,_=>fail
def G0:Option α->T α
 | some a=>ret a
 | none=>fail
def leads:T α->α->Prop
 | ret a,x=>a=x
 | ite b t e,x=>(b=true/\t.leads x)\/(b=false/\e.leads x)
 | W p t,x=>p/\t.leads x
 | fail,_=>False
def wp(Q:α->Prop):T α->Prop
 | ret a=>Q a
 | ite b t e=>(b=true->t.wp Q)/\(b=false->e.wp Q)
 | W p t=>p/\t.wp Q
 | fail=>False
end T
abbrev Fr:=List (Nat×Option D)
def Fr.get:Fr->Nat->Option D
 | [],_=>none
 | (t,d)::r,s=>bif B t s then d else Fr.get r s
def Fr.put(fr:Fr)(dst:Option Nat)(d:Option D):Fr :=
 match dst with
 | some t=>(t,d)::fr
 | none=>fr
abbrev Kn:=List (Nat×Option Bool)
def Kn.get:Kn->Nat->Option Bool
 | [],_=>none
 | (t,b)::r,s=>bif B t s then b else Kn.get r s
inductive GI where
 | ret (ds:List D)
 | b9 (d:D)
inductive UU where
 | rp (τ:Ty) | im (τ:Ty)
inductive Vx where
 | ty (τ:Ty) | rp (τ:Ty) | wi (f:Nat) (caps:List UU)
structure Sig where
 params:List Vx
 res:List Ty
structure Ctx where
 P:Program
 xid:Nat
 sig:Nat->List D->Option Sig
 fn:Nat->List D->St->T (GI×St)
 ro:Nat->Bool
 /-- Blocks that a call leaves as they are. -/
 free:Nat->List D->St->List Nat
 z0a:∀ (g:Nat) (args:List D) (st:St) (rs:GI) (ql:St) (b:Nat),(fn g args st).leads (rs,ql)->b∈free g args st->ql[b]? = st[b]?
 /-- What a call touches that lays no new block. -/
 Qs:Nat->List D->Option (List Nat)
 PA:∀ (g:Nat) (args:List D) (oE:List Nat) (st:St) (rs:GI) (ql:St),Qs g args=some oE->(fn g args st).leads (rs,ql) ->
  ql.length=st.length/\(∀ b,b<st.length->b ∉ oE->ql[b]? = st[b]?)/\∀ x,(fn g args (st++[x])).leads (rs,ql++[x])
inductive Ex where
 | normal | exit (id:Nat) | ret | b9 (d:D)
class Wm where
 u8:Nat
def zd6[Wm](e:Ty)(t:Nat):Bool:=match e with
 | .int .u8=>B t Wm.u8
 | _=>true
def zad[Wm](e:Ty)(t:Nat):Prop:=e=.int .u8->t=Wm.u8
section ops
variable (c:Ctx)
variable [Wm]
def td(t:Nat):Option Nat:=(c.P.info? t).map (·.size)
def pF(t:Nat):Option Nat:=(c.P.info? t).map (·.bytes)
def DF(t:Nat):Option Bool:=match c.P.underlying t with | some (.struct _) | some (.array _ _)=>some true | some _=>some false | none=>none
def oa:List (Option Ty)->Option Ty
 | []=>some .nil
 | some a::r=>match oa r with | some b=>some (.cons a b) | none=>none
 | none::_=>none
def Gw:Nat->Nat->Option Ty
 | 0,_=>none
 | n+1,t=>bif B t c.xid then some .expr else
  match c.P.underlying t with
  | some (.int k)=>some (.int k)
  | some .bool=>some .bool
  | some .string=>some .str
  | some (.slice e)=>match Gw n e with | some a=>some (.sl a) | none=>none
  | some (.struct fs)=>oa (fs.toList.map λf=>Gw n f.type)
  | some (.array k e)=>oa (List.replicate k (Gw n e))
  | _=>none
def ca(t:Nat)(τ:Ty):Bool:=zd6 τ t&&(match td c t with | some n=>B n τ.size | none=>false)&&(match DF c t with | some b=>b==τ.isAgg | none=>false)
def Xl:Value->Option D
 | .int k n=>some (.qi (.int k) n)
 | .bool b=>some (.qi .bool b)
 | .string s=>some (.qi .str s.data.toList)
 | .slice none 0 0=>some .wF
 | .pointer none=>some .gX
 | .nilFunc=>some .gj
 | .nilIface=>some .v8
 | .map none=>some .uT
 | _=>none
def gC:List (Option D)->Option (List D)
 | []=>some []
 | some d::r=>match gC r with | some l=>some (d::l) | none=>none
 | none::_=>none
def JT:Value->Option D
 | .agg cs=>match gC (cs.toList.map Xl)with | some l=>some (.agg l) | none=>none
 | v=>Xl v
def flat:(τ:Ty)->den τ->List D
 | .int k,x=>[.qi (.int k) x]
 | .bool,x=>[.qi .bool x]
 | .str,x=>[.qi .str x]
 | .sl e,x=>[.qi (.sl e) x]
 | .nil,_=>[]
 | .cons a b,x=>flat a x.1++flat b x.2
 | .expr,x=>[.qi i64 x.kind,.qi .bool x.num.1,.qi (.sl u32) x.num.2.1,.qi (.sl u32) x.num.2.2.1,.qi .str x.name,.qi (.sl .expr) x.kids]
def xy:D->List D
 | .qi τ x=>flat τ x
 | .agg cs=>cs
 | .eG _=>[]
 | .Bm _=>[]
 | d=>[d]
def D.isAgg:D->Bool
 | .agg _=>true
 | _=>false
def D.cG:D->Bool
 | .qi τ _=>τ.isAgg
 | .agg _=>true
 | _=>false
def D.zef:D->Bool
 | .qi τ _=>τ.isAgg
 | .agg _=>true
 | _=>false
def l9:List D->Option Nat
 | .mP T::_=>some T
 | .en _ T::_=>some T
 | _=>none
def D.typed:D->Option Nat
 | .agg l=>l9 l
 | _=>none
def ZX(d d':D):Bool:=match d'.typed with
 | none=>true
 | some T=>match d.typed with | some T'=>B T T' | none=>false
def D.Yt:D->Bool
 | .Bm _=>true
 | _=>false
def D.bB:D->Bool
 | .eG _=>true
 | _=>false
def jP{a b:Ty}(x:den a):Option (den b):=if h:a=b then some (h▸x)else none
def mO(e:Ty):Nat->Ty
 | 0=>.nil
 | n+1=>.cons e (mO e n)
def DO:Ty->Option (Ty×Nat)
 | .cons e r=>match r with
  | .nil=>some (e,1)
  | r=>match DO r with
   | some (e',n)=>bif decide (e=e')then some (e,n+1)else none
   | none=>none
 | _=>none
def Wv(e:Ty):(τ:Ty)->den τ->Nat->den e
 | .cons _ _,x,0=>match(jP x.1:Option (den e))with | some y=>y | none=>zb e
 | .cons _ b,x,i+1=>Wv e b x.2 i
 | _,_,_=>zb e
def Rl{e:Ty}(f:Nat->den e):(n:Nat)->Nat->den (mO e n)
 | 0,_=>()
 | n+1,k=>(f k,Rl f n (k+1))
def pG(τ:Ty):D->Option (den τ)
 | .qi σ x=>jP x
 | .tight e l _=>jP (a:=.sl e) l
 | .so e l _=>jP (a:=.sl e) l
 | .wF=>match τ with | .sl e=>some ([]:List (den e)) | _=>none
 | _=>none
def cK:(τ:Ty)->List D->Option (den τ×List D)
 | .int k,d::r=>match pG (.int k) d with | some x=>some (x,r) | none=>none
 | .bool,d::r=>match pG .bool d with | some x=>some (x,r) | none=>none
 | .str,d::r=>match pG .str d with | some x=>some (x,r) | none=>none
 | .sl e,d::r=>match pG (.sl e) d with | some x=>some (x,r) | none=>none
 | .nil,r=>some ((),r)
 | .cons a b,r=>match cK a r with
  | some (x,r')=>match cK b r' with | some (y,r'')=>some ((x,y),r'') | none=>none
  | none=>none
 | .expr,[]=>none
 | .expr,d::r=>match pG i64 d with
  | none=>none
  | some k=>match r with
   | d1::d2::d3::d4::d5::r' =>
    match pG .bool d1,pG (.sl u32) d2,pG (.sl u32) d3,pG .str d4,pG (.sl .expr) d5 with
    | some a,some n,some m,some s,some l=>some (Expr.mk k (a,n,m,()) s l,r')
    | _,_,_,_,_=>none
   | _=>none
 | _,[]=>none
def ov(τ:Ty)(d:D):Option (den τ) :=
 match d with
 | .qi σ x=>jP x
 | .Bm _=>none
 | d=>bif (d.isAgg==τ.isAgg) && !d.bB then match cK τ (xy d)with
   | some (x,[])=>some x
   | _=>none
  else none
def Zc(st:St):D->T D
 | .ms b vi e off len=>match st[b]? with
  | some (.arr dF e' xs)=>if h:e'=e then .W (vi=dF) (.ret (.qi (.sl e) (h▸((xs.take (off+len)).drop off:List (den e')))))else .fail
  | _=>.fail
 | d=>.ret d
def BA(st:St):List D->T (List D)
 | []=>.ret []
 | d::r=>(Zc st d).bind λx=>(BA st r).bind λl=>.ret (x::l)
def snap(st:St):D->T D
 | .agg cs=>(BA st cs).bind λl=>.ret (.agg l)
 | d=>Zc st d
def VJ(st:St)(τ:Ty)(d:D):T (den τ):=(snap st d).bind λx=>.G0 (ov τ x)
def U7:D->Bool | .ms .. => true | _=>false
inductive dT where
 | val (t:T (Option D))
 | rd (k:St->T (Option D))
 | wr (k:St->T (Option D×St))
def val(d:D):dT:=.val (.ret (some d))
def z8D(d:Option D):dT:=match d with | some d=>.val (.ret (some d)) | none=>.val .fail
def bad:dT:=.val .fail
def zae(t:Nat):Bool:=match c.P.underlying t with
 | some (.struct fs)=>match fs[0]? with
  | some fd=>match c.P.underlying fd.type with | some (.pointer e)=>B e t | _=>false
  | none=>false
 | _=>false
def z2f(t:Nat)(d:D):D:=match d with
 | .agg (.gX::r)=>bif zae c t then .agg (.mP t::r)else .agg (.gX::r)
 | d=>d
def K9(t:Nat):Option D:=match c.P.info? t with
 | some i=>match i.zero with | some z=>(match JT z with | some d=>some (z2f c t d) | none=>none) | none=>none
 | none=>none
def BH(l:List D)(off n:Nat):Option (List D) :=
 bif zJ (off+n) l.length then some ((l.drop off).take n)else none
def LX(t:Nat)(d:D)(off:Nat):Option D :=
 match DF c t with
 | some true=>match td c t with
  | none=>none
  | some n=>bif (B off 0)&&B n (xy d).length&&d.zef then some d
   else match BH (xy d) off n with | some l=>some (.agg l) | none=>none
 | some false=>(xy d)[off]?
 | none=>none
def Hd(t:Nat)(d:D)(off:Nat)(x:D):Option D :=
 match td c t with
 | none=>none
 | some n=>bif zI 0 n&&B n (xy x).length&&zJ (off+n) (xy d).length then
   bif B n (xy d).length then(bif d.cG && !x.cG then some (.agg (xy x))else some x)
   else some (.agg ((xy d).take off++xy x++(xy d).drop (off+n)))
  else none
def V3(t:Nat)(a:Option D):dT:=match a with
 | some (.vz τ x)=>bif ca c t τ then val (.qi τ x)else bad
 | some (.ptr b off)=>.rd λst=>match st[b]? with
  | some (.var d)=>bif d.Yt then .fail else match LX c t d off with | some r=>.ret (some r) | none=>.fail
  | _=>.fail
 | some (.gJ b vi e idx off)=>.rd λst=>match st[b]? with
  | some (.arr dF e' xs)=>bif decide (e'=e)then
    .W (vi=dF/\idx<xs.length) (match LX c t (.qi e' (xs.getD idx (zb e'))) off with | some r=>.ret (some r) | none=>.fail)
   else .fail
  | _=>.fail
 | _=>bad
def KO(t:Nat)(a:Option D)(v:Option D):dT:=match a,v with
 | some (.ptr b off),some x=>.wr λst=>match st[b]? with
  | some (.var d)=>match Hd c t d off x with | some r=>bif ZX d r then .ret (none,st.set b (.var r))else .fail | none=>.fail
  | _=>.fail
 | some (.gJ b vi e idx off),some x=>.wr λst=>match st[b]? with
  | some (.arr dF e' xs)=>bif decide (e'=e)then
    .W (vi=dF/\idx<xs.length) (match Hd c t (.qi e' (xs.getD idx (zb e'))) off x with
     | some r=>match ov e' r with | some y=>.ret (none,st.set b (.arr dF e' (xs.set idx y))) | none=>.fail
     | none=>.fail)
   else .fail
  | _=>.fail
 | _,_=>bad
def X0:(τ:Ty)->den τ->Nat->Option (D×Nat×Nat)
 | .cons a _,x,0=>some (.vz a x.1,0,a.size)
 | .cons a b,x,n+1=>match X0 b x.2 n with | some (d,o,s)=>some (d,a.size+o,s) | none=>none
 | .expr,x,0=>some (.vz i64 x.kind,0,1)
 | .expr,x,1=>some (.vz Bu x.num,1,3)
 | .expr,x,2=>some (.vz .str x.name,4,1)
 | .expr,x,3=>some (.vz (.sl .expr) x.kids,5,1)
 | _,_,_=>none
def Ks(s f:Nat):Option (Nat×Nat):=match c.P.underlying s with
 | some (.struct fs)=>match fs[f]? with
  | some fd=>match td c fd.type with | some n=>bif B n 0 then none else some (fd.offset,n) | none=>none
  | none=>none
 | _=>none
def QY(s f:Nat)(a:Option D):dT:=match Ks c s f with
 | none=>bad
 | some (o,n)=>match a with
  | some (.vz τ x)=>match X0 τ x f with
   | some (d,o',n')=>bif B o o'&&B n n' then val d else bad
   | none=>bad
  | some (.ptr b off)=>val (.ptr b (off+o))
  | some (.gJ b vi e idx off)=>val (.gJ b vi e idx (off+o))
  | _=>bad
def Cl(s f:Nat)(a:Option D):dT:=match c.P.underlying s with
 | some (.struct fs)=>match fs[f]? with
  | some fd=>match a with
   | some d=>z8D (bif d.cG then LX c fd.type d fd.offset else none)
   | none=>bad
  | none=>bad
 | _=>bad
def asInt:Option D->Option (IntKind×Int)
 | some (.qi (.int k) n)=>some (k,n)
 | _=>none
def KZ:Option D->Option zx
 | some (.qi .str s)=>some s
 | _=>none
def asBool:Option D->Option Bool
 | some (.qi .bool b)=>some b
 | _=>none
def mU(t:Nat):Option Nat:=match c.P.underlying t with | some (.slice e)=>some e | _=>none
def zaW(t:Nat):Option (Nat×Nat):=match c.P.underlying t with | some (.array n e)=>some (n,e) | _=>none
def Yr(t:Nat)(x:Option D)(i:Int):dT:=match zaW c t,x with
 | some (n,et),some (.vz τ y)=>match DO τ with
  | some (e,m)=>bif ca c et e&&B n m then .val (.W (0<=i/\i<(n:Int)) (.ret (some (.vz e (Wv e τ y i.toNat)))))else bad
  | none=>bad
 | _,_=>bad
def X2(t:Nat)(x i:Option D):dT:=match mU c t,asInt i with
 | none,some (_,i)=>Yr c t x i
 | some et,some (_,i)=>match x with
  | some (.qi (.sl e) l)=>bif ca c et e then .val (.W (0<=i/\i<(V l:Int)) (.ret (some (.vz e (zR l i.toNat (zb e))))))else bad
  | some (.tight e l _)=>bif ca c et e then .val (.W (0<=i/\i<(V l:Int)) (.ret (some (.vz e (zR l i.toNat (zb e))))))else bad
  | some (.ms b vi e off len)=>bif ca c et e then .val (.W (0<=i/\i<(len:Int)) (.ret (some (.gJ b vi e (off+i.toNat) 0))))else bad
  | _=>bad
 | _,_=>bad
def Cz(t:Nat)(x i:Option D):dT:=match asInt i,KZ x,c.P.underlying t with
 | some (_,i),some s,some .string=>.val (.W (0<=i/\i<(V s:Int)) (.ret (some (.qi (.int .u8) ((zR s i.toNat 0).toNat:Int)))))
 | _,_,_=>bad
def Rn(d:Int):Option (Option D)->Option Int
 | none=>some d
 | some x=>match asInt x with | some (_,i)=>some i | none=>none
def fN(l h:Int)(s:zx):zx:=(s.take h.toNat).drop l.toNat
def jI{e:Ty}(l h:Int)(s:List (den e)):List (den e):=(s.take h.toNat).drop l.toNat
def D7(t:Nat)(x:Option D)(lo hi mx:Option (Option D)):dT:=match x with
 | some (.qi .str s)=>match c.P.underlying t,mx,Rn 0 lo,Rn (V s) hi with
  | some .string,none,some l,some h=>.val (.W (0<=l/\l<=h/\h<=(V s:Int)) (.ret (some (.qi .str (fN l h s)))))
  | _,_,_,_=>bad
 | some (.qi (.sl e) s)=>match mU c t,Rn 0 lo,Rn (V s) hi with
  | some et,some l,some h=>bif ca c et e then match mx with
    | none=>.val (.W (0<=l/\l<=h/\h<=(V s:Int)) (.ret (some (.qi (.sl e) (jI l h s)))))
    | some m=>match asInt m with
     | some (_,m)=>bif hi.isSome then .val (.W (0<=l/\l<=h/\h=m/\h<=(V s:Int)) (.ret (some (.tight e (jI l h s) false))))else bad
     | none=>bad
   else bad
  | _,_,_=>bad
 | some (.tight e s _)=>match mU c t,mx,Rn 0 lo,Rn (V s) hi with
  | some et,none,some l,some h=>bif ca c et e then .val (.W (0<=l/\l<=h/\h<=(V s:Int)) (.ret (some (.qi (.sl e) (jI l h s)))))else bad
  | _,_,_,_=>bad
 | some (.ms b vi e off len)=>match mU c t,mx,Rn 0 lo,Rn len hi with
  | some et,none,some l,some h=>bif ca c et e then .val (.W (0<=l/\l<=h/\h<=(len:Int)) (.ret (some (.ms b vi e (off+l.toNat) (h.toNat-l.toNat)))))else bad
  | _,_,_,_=>bad
 | _=>bad
def ib(k:IntKind)(n:Int):dT:=val (.qi (.int k) n)
def bb(b:Bool):dT:=val (.qi .bool b)
def QG(k:IntKind)(f:BitVec k.bits->BitVec k.bits->BitVec k.bits)(x y:Int):Int:=k.wrap (f (BitVec.ofInt k.bits x) (BitVec.ofInt k.bits y)).toNat
def Zb(k:IntKind)(a b:Int):Int:=k.wrap (a*2 ^ (min b.toNat k.bits))
def jk(k:IntKind)(a b:Int):Int:=Int.fdiv a (2 ^ (min b.toNat k.bits))
def Il(op:BinOp)(k:IntKind)(a b:Int):dT:=match op with
 | .add=>ib k (k.wrap (a+b))
 | .sub=>ib k (k.wrap (a-b))
 | .mul=>ib k (k.wrap (a*b))
 | .quo=>.val (.W (b≠0) (.ret (some (.qi (.int k) (k.wrap (a.tdiv b))))))
 | .rem=>.val (.W (b≠0) (.ret (some (.qi (.int k) (a.tmod b)))))
 | .and=>ib k (QG k (· &&& ·) a b)
 | .or=>ib k (QG k (· ||| ·) a b)
 | .xor=>ib k (QG k (· ^^^ ·) a b)
 | .eql=>bb (a==b)
 | .neq=>bb (a != b)
 | .lss=>bb (decide (a<b))
 | .leq=>bb (decide (a<=b))
 | .gtr=>bb (decide (b<a))
 | .geq=>bb (decide (b<=a))
 | _=>bad
def wG(a b:zx):Bool:=a==b
def strLt(a b:zx):Bool:=Op.bytesLess a b
def cat(a b:zx):zx:=a++b
def Ip(op:BinOp)(a b:zx):dT:=match op with
 | .add=>.val (.W (a.length+b.length<=4611686018427387904) (.ret (some (.qi .str (cat a b)))))
 | .eql=>bb (wG a b)
 | .neq=>bb (!wG a b)
 | .lss=>bb (strLt a b)
 | .leq=>bb (strLt a b||wG a b)
 | .gtr=>bb (!(strLt a b||wG a b))
 | .geq=>bb (!strLt a b)
 | _=>bad
def z04(op:BinOp)(a b:Bool):dT:=match op with
 | .eql=>bb (a==b)
 | .neq=>bb (!(a==b))
 | _=>bad
def KB:BinOp->Bool
 | .shl | .shr=>true
 | _=>false
def z8S(a:Ty)(t:Nat):Bool:=match a,c.P.underlying t with
 | .int k,some (.int k')=>decide (k=k')
 | .bool,some .bool=>true
 | .str,some .string=>true
 | _,_=>false
def VZ:Ty->Nat->List Field->Bool
 | .nil,_,[]=>true
 | .cons a r,off,f::fs=>decide (f.name ≠ "_")&&(B f.offset off&&(z8S c a f.type&&VZ r (off+1) fs))
 | _,_,_=>false
def eqT:(τ:Ty)->den τ->den τ->Bool
 | .int _,(a:Int),(b:Int)=>a==b
 | .bool,(a:Bool),(b:Bool)=>a==b
 | .str,(a:zx),(b:zx)=>wG a b
 | .cons a r,(x:den a×den r),(y:den a×den r)=>eqT a x.1 y.1&&eqT r x.2 y.2
 | _,_,_=>true
def Gq(τ:Ty)(t:Nat):Bool:=match c.P.underlying t with
 | some (.struct fs)=>VZ c τ 0 fs.toList&&(!(c.P.stoodInHeld t) && !(c.P.eqGuardType c.P.depth t))
 | _=>false
def z03(op:BinOp)(t:Nat)(x y:Option D):dT:=match x,y with
 | some (.qi τ a),some (.qi σ b)=>match(jP b:Option (den τ))with
  | some b=>bif τ.isAgg&&Gq c τ t then(match op with
   | .eql=>bb (eqT τ a b)
   | .neq=>bb (!eqT τ a b)
   | _=>bad)else bad
  | none=>bad
 | _,_=>bad
def Y1(op:BinOp)(t:Nat)(x y:Option D):dT:=match asInt x,asInt y with
 | some (k,a),some (k',b)=>match op with
  | .shl=>.val (.W (0<=b) (.ret (some (.qi (.int k) (Zb k a b)))))
  | .shr=>.val (.W (0<=b) (.ret (some (.qi (.int k) (jk k a b)))))
  | op=>bif decide (k=k')then Il op k a b else bad
 | _,_=>match KZ x,KZ y with
  | some a,some b=>bif KB op then bad else Ip op a b
  | _,_=>match c.P.underlying t,asBool x,asBool y with
   | some .bool,some a,some b=>z04 op a b
   | _,_,_=>z03 c op t x y
def CM(op:BinOp)(t:Nat)(x:Option D):dT:=match c.P.underlying t with
 | some (.interface _)=>match op,x with
  | .eql,some .v8=>bb true
  | .eql,some (.iface _ _)=>bb false
  | .neq,some .v8=>bb false
  | .neq,some (.iface _ _)=>bb true
  | _,_=>bad
 | _=>bad
def Qc(x:Option D)(at':Nat)(ok:Bool):dT:=match c.P.underlying at' with
 | some (.interface _)=>bad
 | none=>bad
 | some _=>match x with
  | some (.iface t d)=>bif B t at'&&ok then val (.eG [d,.qi .bool true])else bad
  | _=>bad
def CP(op:BinOp)(t:Nat)(x:Option D)(z:dT):dT:=match c.P.underlying t with
 | some (.slice _)=>match op,x with
  | .eql,some .wF=>bb true
  | .eql,some (.so _ _ b)=>bb (!b)
  | .neq,some .wF=>bb false
  | .neq,some (.so _ _ b)=>bb b
  | _,_=>z
 | _=>z
def CO(op:BinOp)(t:Nat)(x:Option D)(z:dT):dT:=match c.P.underlying t with
 | some (.pointer _)=>match op,x with
  | .eql,some .gX=>bb true
  | .eql,some (.ptr _ _)=>bb false
  | .eql,some (.vz _ _)=>bb false
  | .neq,some .gX=>bb false
  | .neq,some (.ptr _ _)=>bb true
  | .neq,some (.vz _ _)=>bb true
  | _,_=>z
 | _=>z
def Io(op:BinOp)(t:Nat)(p:Operand)(x y:Option D):dT:=match p with
 | .const .nilIface=>CM c op t x
 | .const (.slice none 0 0)=>CP c op t x (Y1 c op t x y)
 | .const (.pointer none)=>CO c op t x (Y1 c op t x y)
 | _=>Y1 c op t x y
def z3n(op:UnOp)(x:Option D):dT:=match op with
 | .neg=>match asInt x with | some (k,n)=>ib k (k.wrap (0-n)) | none=>bad
 | .not=>match asBool x with | some b=>bb (!b) | none=>bad
 | .xor=>match asInt x with | some (k,n)=>ib k (QG k (· ^^^ ·) (if k.signed then -1 else k.max) n) | none=>bad
 | _=>bad
def byteOf(n:Int):UInt8:=UInt8.ofNat n.toNat
def Fx(e:Ty):D->Option (List (den e))
 | .qi σ y=>jP (a:=σ) (b:=.sl e) y
 | .tight e' y _=>jP (a:=.sl e') (b:=.sl e) y
 | .wF=>some []
 | _=>none
def ku(l:List Int):zx:=l.map byteOf
def J0(e:Nat)(x:Option D):dT:=match c.P.underlying e,x with
 | some (.int .u8),some d=>.rd λst=>(Zc st d).bind λy=>match Fx (.int .u8) y with
  | some l=>.ret (some (.qi .str (ku l)))
  | none=>.fail
 | _,_=>bad
def convertOp(s t:Nat)(x:Option D):dT:=match c.P.underlying s,c.P.underlying t with
 | some (.slice e),some .string=>J0 c e x
 | some (.int _),some (.int k)=>match asInt x with | some (_,n)=>ib k (k.wrap n) | none=>bad
 | some .string,some .string=>match KZ x with | some s=>val (.qi .str s) | none=>bad
 | _,_=>bad
def z1j(t:Nat)(x:Option D):dT:=match c.P.underlying t with
 | some (.slice _)=>match x with
  | some (.qi (.sl _) l)=>ib .i64 (V l)
  | some (.tight _ l _)=>ib .i64 (V l)
  | some .wF=>ib .i64 0
  | some (.ms _ _ _ _ len)=>ib .i64 (len:Nat)
  | _=>bad
 | some .string=>match KZ x with
  | some s=>ib .i64 (V s)
  | none=>bad
 | _=>bad
def ex(e:Ty){e':Ty}(xs:List (den e')):Option (List (den e)):=jP (a:=.sl e') (b:=.sl e) xs
def pc(e:Ty)(l ys:List (den e))(bytes:Nat)(st:St):T (Option D×St) :=
 .W ((l.length+ys.length)*bytes<=140737488355328) (.ret (some (.ms st.length (l.length+ys.length) e 0 (l.length+ys.length)),st++[.arr (l.length+ys.length) e (l++ys)]))
def bp(e:Ty)(s:D)(ys:List (den e))(ne:Bool)(bytes:Nat)(st:St):T (Option D×St):=match s with
 | .wF=>bif ne then pc e [] ys bytes st else .ite ys.isEmpty (.ret (some s,st)) (pc e [] ys bytes st)
 | .tight e' l _=>match ex e l with
  | some l=>bif ne then pc e l ys bytes st else .ite ys.isEmpty (.ret (some s,st)) (pc e l ys bytes st)
  | none=>.fail
 | .so e' l b=>match ex e l with
  | some []=>bif b then .W (ys.length*bytes<=140737488355328) (.ret (some (.so e ys true),st))else .fail
  | _=>.fail
 | .ms b vi e' off len=>match st[b]? with
  | some (.arr dF e'' xs)=>match ex e xs with
   | some xs=>bif decide (e'=e)then .W (vi=dF/\off=0/\len=xs.length/\(xs.length+ys.length)*bytes<=140737488355328)
     (.ret (some (.ms b (vi+ys.length) e 0 (len+ys.length)),st.set b (.arr (vi+ys.length) e (xs++ys))))else .fail
   | none=>.fail
  | _=>.fail
 | _=>.fail
def zeroOf(et:Nat)(e:Ty):Option (den e):=match K9 c et with | some z=>ov e z | none=>none
def QE(t:Nat)(s x:Option D):dT:=match mU c t with
 | none=>bad
 | some et=>match Gw c 20 et,pF c et with
  | some e,some bytes=>bif ca c et e&&zI 0 e.size&&zI 0 bytes&&(zeroOf c et e).isSome then match s,x with
    | some s,some x=>.wr λst=>(Zc st x).bind λx=>match x with
     | .qi _ y=>match(jP y:Option (den (.sl e)))with
      | some ys=>bp e s ys false bytes st
      | none=>.fail
     | .tight _ y ne=>match ex e y with
      | some ys=>bp e s ys ne bytes st
      | none=>.fail
     | .wF=>bp e s [] false bytes st
     | _=>.fail
    | _,_=>bad
   else bad
  | _,_=>bad
def bytesOf(s:zx):List Int:=s.map λb=>((b.toNat:Nat):Int)
def tI(t t':Nat)(s x:Option D):dT:=match mU c t with
 | none=>bad
 | some et=>match Gw c 20 et,pF c et,c.P.underlying t' with
  | some (.int .u8),some bytes,some .string=>bif ca c et (.int .u8)&&zI 0 bytes&&(zeroOf c et (.int .u8)).isSome then match s,x with
    | some s,some (.qi .str l)=>.wr λst=>bp (.int .u8) s (bytesOf l) false bytes st
    | _,_=>bad
   else bad
  | _,_,_=>bad
def Le(t:Nat)(n m:Option D):dT:=match mU c t,asInt n,asInt m with
 | some et,some (_,n),some (_,m)=>match Gw c 20 et,pF c et with
  | some e,some bytes=>match zeroOf c et e with
   | some z=>bif ca c et e&&zI 0 e.size then
     .wr λst=>.W (0<=n/\n<=m/\m*bytes<=140737488355328/\m<=140737488355328) (.ret (some (.ms st.length n.toNat e 0 n.toNat),st++[.arr n.toNat e (List.replicate n.toNat z)]))
    else bad
   | none=>bad
  | _,_=>bad
 | _,_,_=>bad
def HK(e:Ty):Nat->List (Nat×Option D)->Option (List (den e))
 | _,[]=>some []
 | i,(j,some d)::r=>bif B i j then match ov e d,HK e (i+1) r with
   | some x,some l=>some (x::l)
   | _,_=>none
  else none
 | _,_=>none
def bP(t n:Nat)(ps:List (Nat×Option D)):dT:=match mU c t with
 | none=>bad
 | some et=>match Gw c 20 et with
  | some e=>bif ca c et e&&B n ps.length&&zJ n 1000&&zJ e.size 100&&(zeroOf c et e).isSome then match HK e 0 ps with
    | some l=>bif B n 0&&zI 0 e.size then .wr λst=>.ret (some (.ms st.length 0 e 0 0),st++[.arr 0 e []])else val (.tight e l (!B n 0))
    | none=>bad
   else bad
  | none=>bad
def VG(t:Nat)(z:dT):dT:=match mU c t with
 | none=>z
 | some et=>match Gw c 20 et with
  | some e=>bif ca c et e&&(zeroOf c et e).isSome then val (.so e [] true)else z
  | none=>z
def rO(places:List (Nat×Nat)):List (Nat×Option D)->List D->Option (List D)
 | [],cells=>some cells
 | (i,some d)::r,cells=>match places[i]? with
  | some (off,n)=>bif !d.bB&&B n (xy d).length&&zJ (off+n) cells.length then
     rO places r (cells.take off++xy d++cells.drop (off+n))else none
  | none=>none
 | _,_=>none
def C3(t:Nat)(ps:List (Nat×Option D)):dT:=match c.P.underlying t with
 | some (.struct fs)=>match K9 c t,fs.toList.mapM (λf=>(c.P.info? f.type).map λi=>(f.offset,i.size))with
  | some (.agg z),some places=>match rO places ps z with
   | some l=>val (.agg l)
   | none=>bad
  | _,_=>bad
 | some (.array k e)=>match K9 c t,c.P.info? e with
  | some (.agg z),some ie=>match rO ((List.range k).map λi=>(i*ie.size,ie.size)) ps z with
   | some l=>val (.agg l)
   | none=>bad
  | _,_=>bad
 | _=>bad
def J7(x:Option D)(i:Nat):dT:=match x with
 | some (.eG vs)=>z8D vs[i]?
 | _=>bad
def eO:List D->D
 | [d]=>d
 | ds=>.eG ds
def Ty.scalar:Ty->Bool
 | .int _ | .bool | .str=>true
 | .cons a b=>a.scalar&&b.scalar
 | .nil=>true
 | _=>false
def Wf:D->Bool
 | .qi τ _=>τ.scalar
 | _=>false
def Qi(st:St)(τ:Ty):D->T D
 | .vz _ x=>match(jP x:Option (den τ))with | some y=>.ret (.vz τ y) | none=>.fail
 | .ptr b off=>match st[b]? with
  | some (.var d)=>match bif B off 0 then ov τ d else none with | some y=>.ret (.vz τ y) | none=>.fail
  | _=>.fail
 | _=>.fail
def QL(st:St):UU->D->T D
 | .im τ,d=>(VJ st τ d).bind λx=>.ret (.qi τ x)
 | .rp τ,d=>Qi st τ d
def mw(st:St):List UU->List D->T (List D)
 | [],[]=>.ret []
 | p::r,d::ds=>(QL st p d).bind λx=>(mw st r ds).bind λl=>.ret (x::l)
 | _,_=>.fail
def E0(st:St):Vx->D->T D
 | .ty τ,d=>(VJ st τ d).bind λx=>.ret (.qi τ x)
 | .rp τ,d=>Qi st τ d
 | .wi f caps,.wi f' l=>bif B f f' then(mw st caps l).bind λl=>.ret (.wi f l)else .fail
 | _,_=>.fail
def Qh(st:St):List Vx->List D->T (List D)
 | [],[]=>.ret []
 | p::r,d::ds=>(E0 st p d).bind λx=>(Qh st r ds).bind λl=>.ret (x::l)
 | _,_=>.fail
def zbZ:D->Bool | .ptr .. => true | _=>false
def Jm:D->Bool
 | .agg cs=>cs.any U7
 | .wi _ l=>l.any λd=>U7 d||zbZ d
 | .ptr .. => true
 | d=>U7 d
def z2V(r:GI×St):T (Option D):=match r with
 | (.ret ds,[])=>.ret (some (eO ds))
 | _=>.fail
def Wc(r:GI×St):T (Option D):=match r with
 | (.ret ds,[])=>bif ds.all Wf then .ret (some (eO ds))else .fail
 | _=>.fail
def ep(g:Nat)(s:Sig)(args:List D):dT :=
 bif !(args.any Jm)then .val ((Qh [] s.params args).bind λl=>(c.fn g l []).bind z2V)
 else .rd λst=>(Qh st s.params args).bind λl=>(c.fn g l []).bind Wc
def sx(g:Nat)(args:List D):dT:=.wr λst=>(c.fn g args st).bind λr=>match r.1 with
 | .ret ds=>.ret (some (eO ds),r.2)
 | .b9 _=>.fail
def ed(g:Nat):Nat:=bif zJ 1000000 g then g % 1000000 else g
def bK{α:Type}(g:Nat)(l caps:List α):List α:=bif zJ 1000000 g then caps++l else l++caps
def eR(f:Option D)(args:List (Option D)):dT:=match f,gC args with
 | some (.wi g caps),some l=>match c.sig (ed g) (bK g l caps)with
  | some s=>ep c (ed g) s (bK g l caps)
  | none=>sx c (ed g) (bK g l caps)
 | _,_=>bad
def V5(a b:Int):Int:=if b<a then b else a
def lh(a b:Int):Int:=if a<b then b else a
def YS(f:Int->Int->Int)(args:List (Option D)):dT:=match args with
 | [x,y]=>match asInt x,asInt y with
  | some (k,a),some (k',b)=>bif decide (k=k')then ib k (f a b)else bad
  | _,_=>bad
 | _=>bad
def yr{α:Type}(off len:Nat)(xs l:List α):List α:=xs.take off++l.take len++xs.drop (off+min len l.length)
def TU(k:IntKind)(b vi off len:Nat)(l:List Int)(st:St):T (Option D×St):=match st[b]? with
 | some (.arr dF e' xs)=>match ex (.int k) xs with
  | some xs=>.W (vi=dF/\off+len<=V xs) (.ret (some (.qi i64 ((min len l.length:Nat):Int)),st.set b (.arr dF (.int k) (yr off len xs l))))
  | none=>.fail
 | _=>.fail
def ID(t:Nat)(s x:Option D):dT:=match mU c t with
 | some et=>match c.P.underlying et,td c et,s,x with
  | some (.int k),some 1,some (.ms b vi (.int k') off len),some d=>bif decide (k'=k)then .wr λst=>(Zc st d).bind λy=>match Fx (.int k) y with
    | some l=>TU k b vi off len l st
    | none=>.fail
   else bad
  | _,_,_,_=>bad
 | none=>bad
def lI(b:Builtin)(ts:List Nat)(args:List (Option D)):dT:=match b,ts,args with
 | .len,t::_,x::_=>z1j c t x
 | .append,[t,t'],[s,x]=>bif B t t' then QE c t s x else tI c t t' s x
 | .copy,[t,_],[s,x]=>ID c t s x
 | .min,_,args=>YS V5 args
 | .max,_,args=>YS lh args
 | _,_,_=>bad
def bu(fr:Fr):Operand->Option D
 | .tmp t=>fr.get t
 | .const v=>JT v
 | .global _=>none
 | .func f=>bif zI f 1000000 then some (.wi f [])else none
def Vf(x:Option D):dT:=match x with
 | some (.ptr b o)=>val (.ptr b o)
 | some (.vz τ x)=>val (.vz τ x)
 | some (.gJ b v e i o)=>val (.gJ b v e i o)
 | some (.wi f l)=>val (.wi f l)
 | _=>bad
def Lx(x a b:Option D):dT:=match asBool x with
 | some x=>.val (.ite x (.ret a) (.ret b))
 | none=>bad
def Xc(t:Nat)(x:Option D):dT:=match c.P.underlying t with
 | some (.interface _) | none=>bad
 | some _=>match x with | some d=>val (.iface t d) | none=>bad
def TG(x:Option D):dT:=match x with
 | some d=>bif d.bB||d.typed.isSome then bad else .wr λst=>.ret (some (.ptr st.length 0),st++[.var d])
 | none=>bad
def TH(t:Nat)(x:Option D):dT:=match x with
 | some (.qi τ x)=>val (.vz τ x)
 | some d=>match Gw c 20 t with
  | some τ=>match ov τ d with | some x=>val (.vz τ x) | none=>bad
  | none=>bad
 | none=>bad
def z2W:Option Nat->Bool
 | some s=>c.ro s
 | none=>false
def TF(t:Nat)(dst:Option Nat)(x:Option D):dT:=bif z2W c dst then TH c t x else TG x
def ot(t:Nat):dT:=match K9 c t with
 | some d=>.wr λst=>.ret (some (.ptr st.length 0),st++[.var d])
 | none=>bad
def Ys:IntKind->Bool
 | .i64=>true
 | _=>false
def EN(t:Nat):Bool:=match c.P.underlying t with
 | some (.map k e)=>(match c.P.underlying k with | some (.int q)=>Ys q | _=>false)&&(match c.P.underlying e with | some .bool=>true | _=>false)&&(match c.P.info? e with | some i=>(match i.zero with | some (.bool z) => !z | _=>false) | none=>false)
 | _=>false
def wfI(n:Int):Prop:=(Lit.int .i64 n).wf=true
def z2i(y:Bool)(n:Int)(l:List Int):Prop:=y=true/\wfI n/\l.length<4294967296
def Ji(t:Nat)(r:Option Operand):dT:=bif EN c t&&r.isNone then .wr λst=>.ret (some (.yL st.length),st++[.var (.Bm [])])else bad
def YL(t:Nat)(ok:Bool)(m x:Option D):dT:=bif EN c t && !ok then match m,asInt x with
 | some (.yL b),some (q,n)=>bif Ys q then .rd λst=>match st[b]? with
  | some (.var (.Bm l))=>.W (wfI n) (.ret (some (.qi .bool (l.contains n))))
  | _=>.fail
  else bad
 | some .uT,some (q,n)=>bif Ys q then .val (.W (wfI n) (.ret (some (.qi .bool false))))else bad
 | _,_=>bad
 else bad
def YO(t:Nat)(m x v:Option D):dT:=bif EN c t then match m,asInt x,asBool v with
 | some (.yL b),some (q,n),some y=>bif Ys q then .wr λst=>match st[b]? with
  | some (.var (.Bm l))=>.W (z2i y n l) (.ret (none,st.set b (.var (.Bm (l++[n])))))
  | _=>.fail
  else bad
 | _,_,_=>bad
 else bad
def wP(ρ:Operand->Option D)(o:Oper):dT:=match o.op with
 | .move x | .assign x=>.val (.ret (ρ x))
 | .pick x a b=>Lx (ρ x) (ρ a) (ρ b)
 | .alloc t=>ot c t
 | .box t x=>TF c t o.dst (ρ x)
 | .load t a=>V3 c t (ρ a)
 | .store t a v=>KO c t (ρ a) (ρ v)
 | .nilCheck x=>Vf (ρ x)
 | .binOp op t x y _=>Io c op t y (ρ x) (ρ y)
 | .typeAssert x _ t ok=>Qc c (ρ x) t ok
 | .unOp op _ x=>z3n op (ρ x)
 | .convert s t x=>convertOp c s t (ρ x)
 | .makeInterface t x=>Xc c t (ρ x)
 | .makeMap t r=>Ji c t r
 | .lookup t m x ok=>YL c t ok (ρ m) (ρ x)
 | .mapUpdate t m x v=>YO c t (ρ m) (ρ x) (ρ v)
 | .makeFunc (.func f) first cap=>bif B first.size 0&&zI f 1000000 then match gC (cap.toList.map ρ)with | some l=>val (.wi f l) | none=>bad
   else bif B cap.size 0&&zI f 1000000 then match gC (first.toList.map ρ)with | some l=>val (.wi (f+1000000) l) | none=>bad else bad
 | .makeSlice t l m=>Le c t (ρ l) (ρ m)
 | .slice t x lo hi mx=>D7 c t (ρ x) (lo.map ρ) (hi.map ρ) (mx.map ρ)
 | .fieldAddr s x f=>QY c s f (ρ x)
 | .field s x f=>Cl c s f (ρ x)
 | .indexAddr t x i=>X2 c t (ρ x) (ρ i)
 | .index t x i=>Cz c t (ρ x) (ρ i)
 | .extract x i=>J7 (ρ x) i
 | .build t ps=>C3 c t (ps.toList.map λp=>(p.1,ρ p.2))
 | .buildSlice t n ps=>bif z2W c o.dst&&B n 0&&B ps.size 0 then VG c t (bP c t n (ps.toList.map λp=>(p.1,ρ p.2)))else bP c t n (ps.toList.map λp=>(p.1,ρ p.2))
 | .call cl=>match cl.callee with
  | .builtin b=>lI c b cl.argTypes.toList (cl.args.toList.map ρ)
  | .value f=>eR c (ρ f) (cl.args.toList.map ρ)
  | .invoke _ _=>bad
 | _=>bad
def qu:dT->St->T (Option D×St)
 | .val t,st=>t.bind λd=>.ret (d,st)
 | .rd k,st=>(k st).bind λd=>.ret (d,st)
 | .wr k,st=>k st
end ops
end Go.AM
namespace Go.AM
def dT.kind:dT->Nat
 | .val _=>0
 | .rd _=>1
 | .wr _=>2
def bA(ops:Array Oper)(j:Nat):Option Nat:=match ops[j]? with | some o=>o.dst | none=>none
def T0:D:=.eG []
def ga(n:Nat):Option Nat->Bool
 | some t=>zI t n
 | none=>true
section
variable (c:Ctx)
variable [Wm]
def ru(kn:Kn):Operand->Option Bool
 | .tmp t=>kn.get t
 | .const (.bool b)=>some b
 | _=>none
def H8(kn:Kn):Op->Option Bool
 | .move x | .assign x=>ru kn x
 | .pick x a b=>match ru kn x with
  | some true=>ru kn a
  | some false=>ru kn b
  | none=>none
 | _=>none
def Qn(kn:Kn)(fr:Fr)(o:Oper):dT:=match o.op with
 | .pick x a b=>match ru kn x with
  | some true=>.val (.ret (bu fr a))
  | some false=>.val (.ret (bu fr b))
  | none=>wP c (bu fr) o
 | _=>wP c (bu fr) o
def He(kn:Kn)(dst:Option Nat)(b:Option Bool):Kn:=match dst with | some t=>(t,b)::kn | none=>kn
inductive RK where
 | z (k:Nat) | rd (b:Nat) | wr (free:List Nat) | up (b:Nat) | wc (l:List Nat) | al (free:List Nat)
def RK.base:RK->Nat
 | .z k=>k
 | .rd _=>1
 | .wr _=>2
 | .up _=>2
 | .wc _=>2
 | .al _=>2
def others(n:Nat)(l:List Nat):List Nat:=(List.range n).filter λb => !(l.any (B b))
def zd0(d:Option D):Option Nat:=match d with
 | some d=>match d with
  | .ptr b _=>some b
  | .gJ b _ _ _ _=>some b
  | _=>none
 | none=>none
def HU(bi:Builtin)(l:List (Option D))(st:St):RK:=match bi with
 | .append=>match l with | [some (.ms b _ _ _ _),some x]=>bif U7 x then .z 2 else .up b | [some .wF,some x]=>bif U7 x then .z 2 else .wr (others st.length []) | _=>.z 2
 | _=>.z 2
def vu(ρ:Operand->Option D)(st:St)(o:Oper):RK:=match(wP c ρ o).kind with
 | 1=>match o.op with
  | .load _ a=>match zd0 (ρ a)with | some b=>.rd b | none=>.z 1
  | _=>.z 1
 | 2=>match o.op with
  | .alloc _=>.al (others st.length [])
  | .store _ a _=>match zd0 (ρ a)with | some b=>.up b | none=>.z 2
  | .call cl=>match cl.callee with
   | .value f=>match ρ f,gC (cl.args.toList.map ρ)with | some (.wi g caps),some l=>(match c.Qs (ed g) (bK g l caps)with | some oE=>.wc oE | none=>.wr (c.free (ed g) (bK g l caps) st)) | _,_=>.z 2
   | .builtin bi=>HU bi (cl.args.toList.map ρ) st
   | _=>.z 2
  | _=>.z 2
 | k=>.z k
structure om where
 fr:Fr
 kn:Kn
 st:St
 ks:List Nat      -- kinds of what has run,the last first
 bk:List RK
def l0(n:Nat)(o:Oper)(s:om):T om :=
 bif ga n o.dst then
  let cl:=Qn c s.kn s.fr o
  (qu cl s.st).bind λr=>.ret ⟨s.fr.put o.dst r.1,He s.kn o.dst (H8 s.kn o.op),r.2,cl.kind::s.ks,vu c (bu s.fr) s.st o::s.bk⟩
 else .fail
def cI(o:Oper)(s:om):om:=⟨s.fr.put o.dst (some T0),He s.kn o.dst none,s.st,0::s.ks,.z 0::s.bk⟩
def om.lg(s:om)(t:Nat)(b:Bool):om:={ s with kn:=(t,some b)::s.kn }
def stepG(n:Nat)(ops:Array Oper)(o:Oper)(s:om):T om:=match o.guard with
 | none=>l0 c n o s
 | some (j,want)=>match bA ops j with
  | none=>.fail
  | some t=>match s.kn.get t with
   | some b=>bif b==want then l0 c n o s else bif ga n o.dst then .ret (cI o s)else .fail
   | none=>match s.fr.get t with
    | some (.qi .bool x)=>bif ga n o.dst then
      .ite x (bif want then l0 c n o (s.lg t true)else .ret (cI o (s.lg t true)))
          (bif want then .ret (cI o (s.lg t false))else l0 c n o (s.lg t false))
     else .fail
    | some (.eG [])=>bif ga n o.dst then .ret (cI o s)else .fail
    | _=>.fail
def tz(n:Nat)(ops:Array Oper):List Oper->om->T om
 | [],s=>.ret s
 | o::l,s=>(stepG c n ops o s).bind λs'=>tz n ops l s'
def tmpsOf(ops:Array Oper)(o:Oper):List Nat :=
 (match o.dst with | some d=>[d] | none=>[]) ++
 (match o.guard with | some (j,_)=>(match bA ops j with | some s=>[s] | none=>[]) | none=>[]) ++
 o.op.operands.toList.filterMap λ| .tmp t=>some t | _=>none
def vW(l:List Oper):List Nat->List Nat
 | acc=>match l with
  | []=>acc
  | o::r=>vW r (acc++[o.after.toList.foldl (λs e=>bif Region.binds .any e then s ||| 2 ^ e.on ||| acc.getD e.on 0 else s) 0])
def ordered(bs:List Nat)(i j:Nat):Bool:=Nat.testBit (bs.getD j 0) i
def bO(k l:Nat):Bool:=(B k 2 && !B l 0)||(B l 2 && !B k 0)
def Lw{K:Type}(cl:K->K->Bool)(bs:List Nat)(xs:List (Nat×Option Nat×List Nat×K))(j:Nat)(dj:Option Nat)(tj:List Nat)(kj:K):Bool :=
 xs.all λx=>ordered bs x.1 j||(!(match x.2.1 with | some d=>tj.contains d | none=>false) && !(match dj with | some d=>x.2.2.1.contains d | none=>false) && !cl x.2.2.2 kj)
def ZZ{K:Type}(cl:K->K->Bool)(ops:Array Oper)(bs:List Nat):List Oper->List K->Nat->List (Nat×Option Nat×List Nat×K)->Bool
 | [],_,_,_=>true
 | o::l,k::ks,j,xs=>let tj:=tmpsOf ops o; Lw cl bs xs j o.dst tj k&&ZZ cl ops bs l ks (j+1) ((j,o.dst,tj,k)::xs)
 | _,_,_,_=>false
def fY:List Oper->Nat->Bool
 | [],_=>true
 | o::l,j=>o.after.toList.all (λe => !Region.binds .any e||zI e.on j)&&fY l (j+1)
def MH(ops:Array Oper)(ks:List Nat):Bool :=
 let l:=ops.toList
 fY l 0&&ZZ bO ops (vW l []) l ks 0 []
def Kh(o:Oper):Bool:=(match o.op with | .alloc _=>true | _=>false)&&o.guard.isNone&&o.dst.isSome
def YB:List Oper->List Nat->List Nat
 | o::l,k::ks=>(bif Kh o then 3 else k)::YB l ks
 | _,_=>[]
def QK(k l:Nat):Bool:=bif B k 3&&B l 3 then false else bO (bif B k 3 then 2 else k) (bif B l 3 then 2 else l)
def KV:List Oper->Nat->List Nat
 | [],_=>[]
 | o::l,i=>bif Kh o then i::KV l (i+1)else KV l (i+1)
def DI(bs al:List Nat)(n:Nat):Bool:=(List.range n).all λj => !(al.any λp=>ordered bs p j)||al.all λp=>ordered bs p j
def MI(ops:Array Oper)(ks:List Nat):Bool :=
 let l:=ops.toList
 fY l 0&&(ks.all λk=>zJ k 2)&&ZZ QK ops (vW l []) l (YB l ks) 0 []&&DI (vW l []) (KV l 0) l.length
def yE:RK->RK->Bool
 | .rd b,.wr A => !(A.any (B b))
 | .wr A,.rd b => !(A.any (B b))
 | .rd b,.al A => !(A.any (B b))
 | .al A,.rd b => !(A.any (B b))
 | .rd b,.wc oE=>oE.any (B b)
 | .wc oE,.rd b=>oE.any (B b)
 | .wc _,.al _=>false
 | .rd b,.up a=>B a b
 | .up a,.rd b=>B a b
 | .up a,.up b=>B a b
 | x,y=>bO x.base y.base
def MJ(ops:Array Oper)(ks:List RK):Bool :=
 let l:=ops.toList
 fY l 0&&ZZ yE ops (vW l []) l ks 0 []
def WW(ops:Array Oper)(ks:List Nat)(bk:List RK):Bool:=MH ops ks||MI ops ks||MJ ops bk
def pA(n:Nat)(ops:Array Oper)(draw:Bool)(fr:Fr)(kn:Kn)(st:St):T om :=
 (tz c n ops ops.toList ⟨fr,kn,st,[],[]⟩).bind λs=>bif !draw||WW ops s.ks.reverse s.bk.reverse then .ret s else .fail
def yq:List D->Nat->Fr
 | [],_=>[]
 | d::r,i=>(i,some d)::yq r (i+1)
def np(fr:Fr)(st:St):List ResultVar->T (List D)
 | []=>.ret []
 | .tmp t::r=>match fr.get t with
  | some d=>(np fr st r).bind λl=>.ret (d::l)
  | none=>.fail
 | .cell a t::r=>match fr.get a with
  | some (.ptr b off)=>match st[b]? with
   | some (.var d)=>bif d.Yt then .fail else match LX c t d off with
    | some x=>(np fr st r).bind λl=>.ret (x::l)
    | none=>.fail
   | _=>.fail
  | _=>.fail
def ya(n:Nat):D->Bool
 | .ptr b _=>zI b n
 | .en b _=>zI b n
 | .yL b=>zI b n
 | .gJ b .. => zI b n
 | .ms b .. => zI b n
 | .wi .. | .agg _ | .eG _ | .iface .. => false
 | _=>true
def fK(n:Nat):D->Bool
 | .wi _ l=>l.all (ya n)
 | .agg l=>l.all (ya n)
 | .iface _ d=>ya n d
 | d=>ya n d
def C7(n:Nat):cL->Bool
 | .var d=>fK n d
 | _=>true
end
end Go.AM
namespace Go.AM
open Go.RowKit
inductive Rc(w:World)(ok:Nat->Prop):(τ:Ty)->den τ->List Value->Prop
 | int (k:IntKind) (n:Int):Rc w ok (.int k) n [.int k n]
 | bool (b:Bool):Rc w ok .bool b [.bool b]
 | str (s:zx):Rc w ok .str s [.string ⟨s.toArray⟩]
 | lA (e:Ty) (a:Option Addr):Rc w ok (.sl e) ([]:List (den e)) [.slice a 0 0]
 | sl (e:Ty) (l:List (den e)) (blk off cap:Nat) (f:Nat->List Value) (j3:ok blk) (jg:l.length<=cap)
   (h:∀ i (hi:i<l.length),Rc w ok e l[i] (f i))
   (hc:∀ i,i<l.length->∀ j v,(f i)[j]? = some v->w.cell? ⟨blk,off+i*e.size+j,none⟩=some v) :
   Rc w ok (.sl e) l [.slice (some ⟨blk,off,none⟩) l.length cap]
 | nil:Rc w ok .nil () []
 | cons (a b:Ty) (x:den a) (y:den b) (c1 c2:List Value) (h1:Rc w ok a x c1) (M:Rc w ok b y c2):Rc w ok (.cons a b) (x,y) (c1++c2)
 | expr (k:Int) (n:den Bu) (s:zx) (l:List Expr) (cs:List Value) (h:Rc w ok JD (k,n,s,l,()) cs):Rc w ok .expr (.mk k n s l) cs
def I9(w w':World)(ok JV:Nat->Prop):Prop:=∀ k,ok k->JV k/\w'.heap[k]? = w.heap[k]?
theorem lJ{w w':World}{a:Addr}(h:w'.heap[a.block]? = w.heap[a.block]?):w'.cell? a=w.cell? a:=by simp[World.cell?,h]
section
variable {w w':World} {ok JV:Nat->Prop}
theorem Rc.mono{τ:Ty}{x:den τ}{cs:List Value}(hs:I9 w w' ok JV)(h:Rc w ok τ x cs):Rc w' JV τ x cs:=by
 induction h with
 | int k n=>exact .int k n
 | bool b=>exact .bool b
 | str s=>exact .str s
 | lA e a=>exact .lA e a
 | sl e l blk off cap f j3 jg h hc ih=>exact .sl e l blk off cap f (hs _ j3).1 jg ih λi hi j v hv=>by rw[lJ (hs _ j3).2]; exact hc i hi j v hv
 | nil=>exact .nil
 | cons a b x y c1 c2 h1 M i1 i2=>exact .cons a b x y c1 c2 i1 i2
 | expr k n s l cs h ih=>exact .expr k n s l cs ih
theorem Rc.len{τ:Ty}{x:den τ}{cs:List Value}(h:Rc w ok τ x cs):cs.length=τ.size:=by
 induction h with
 | cons a b x y c1 c2 h1 M i1 i2=>simp[Ty.size,i1,i2]
 | expr k n s l cs h ih=>simpa[Ty.size]using ih
 | _=>rfl
theorem Rc.one{τ:Ty}{x:den τ}{cs:List Value}(h:Rc w ok τ x cs):∀ v∈cs,v.oneCell'=true:=by
 induction h with
 | cons a b x y c1 c2 h1 M i1 i2=>grind
 | expr k n s l cs h ih=>exact ih
 | _=>intro v hv; simp at hv; try (subst hv; rfl)
theorem Rc.dO{k:IntKind}{n:Int}{cs:List Value}(h:Rc w ok (.int k) n cs):cs=[.int k n]:=by cases h; rfl
theorem Rc.cr{n:Bool}{cs:List Value}(h:Rc w ok .bool n cs):cs=[.bool n]:=by cases h; rfl
theorem Rc.jc{n:zx}{cs:List Value}(h:Rc w ok .str n cs):cs=[.string ⟨n.toArray⟩]:=by cases h; rfl
theorem Rc.cons_inv{a b:Ty}{x:den (.cons a b)}{cs:List Value}(h:Rc w ok (.cons a b) x cs):∃ c1 c2,cs=c1++c2/\Rc w ok a x.1 c1/\Rc w ok b x.2 c2:=by
 cases h with | cons _ _ x y c1 c2 h1 M=>exact⟨c1,c2,rfl,h1,M⟩
theorem Rc.we{x:den .nil}{cs:List Value}(h:Rc w ok .nil x cs):cs=[]:=by cases h; rfl
theorem Rc.Eg{x:Expr}{cs:List Value}(h:Rc w ok .expr x cs):Rc w ok JD x.z09 cs:=by cases h with | expr k n s l cs h=>exact h
theorem Rc.tA{e:Ty}{l:List (den e)}{cs:List Value}(h:Rc w ok (.sl e) l cs):(l=[]/\∃ a,cs=[.slice a 0 0]) \/
  ∃ (blk off cap:Nat) (f:Nat->List Value),cs=[.slice (some ⟨blk,off,none⟩) l.length cap]/\ok blk/\l.length<=cap/\(∀ i (hi:i<l.length),Rc w ok e l[i] (f i)) /\
   (∀ i,i<l.length->∀ j v,(f i)[j]? = some v->w.cell? ⟨blk,off+i*e.size+j,none⟩=some v):=by
 cases h with
 | lA _ a=>simp
 | sl _ _ blk off cap f j3 jg h hc=>exact .inr ⟨blk,off,cap,f,rfl,j3,jg,h,hc⟩
end
def pk(τ:Ty)(cs:List Value):Value:=if τ.isAgg then .agg cs.toArray else cs.headD undef
structure KS where
 w:World
 ok:Nat->Prop
 ph:List (Option (Nat×Nat))
 st:St
def Mo(ph:List (Option (Nat×Nat)))(b znR:Nat)(e:Ty)(off len:Nat)(v:Value):Prop :=
 off+len<=znR/\((len=0/\off=0/\v=.slice none 0 0/\ph[b]? = some none) \/
  ∃ (blk n o cap:Nat),ph[b]? = some (some (blk,n))/\v=.slice (some ⟨blk,o,none⟩) len cap/\len<=cap/\(off+cap)*e.size<=n/\(cap=0\/o=off*e.size))
def Old(st:St)(b vi:Nat):Prop:=st[b]? = some .dead\/∃ (v0:Nat) (e0:Ty) (Vu:List (den e0)),st[b]? = some (.arr v0 e0 Vu)/\vi<=v0
def D.one:D->Bool
 | .qi τ _ => !τ.isAgg
 | .agg _ | .eG _=>false
 | _=>true
def Qw(f:Nat)(vs:List Value):Value:=bif zJ 1000000 f then .func (.func (f % 1000000)) vs.toArray #[]else .func (.func f) #[] vs.toArray
theorem C6{f:Nat}(h:zI f 1000000=true)(vs:List Value):Qw f vs=.func (.func f) #[] vs.toArray:=by
 have:zJ 1000000 f=false:=by
  cases I:zJ 1000000 f with
  | false=>rfl
  | true=>have h1:=zK I; have M:=zK h; omega
 unfold Qw; rw[this]; rfl
theorem Iz{f:Nat}(h:zI f 1000000=true)(vs:List Value):Qw (f+1000000) vs=.func (.func f) vs.toArray #[]:=by
 have h1:zJ 1000000 (f+1000000)=true:=Nat.ble_eq_true_of_le (O)
 have M:=zK h
 have h3:(f+1000000) % 1000000=f:=O
 unfold Qw; rw[h1,h3]; rfl
theorem Y8(f:Nat)(vs:List Value):(Qw f vs).cells.toList=[Qw f vs]:=by
 unfold Qw; cases zJ 1000000 f<;>rfl
theorem TN(f:Nat)(vs:List Value):(Qw f vs).oneCell'=true:=by
 unfold Qw; cases zJ 1000000 f<;>rfl
theorem Y7(f:Nat)(vs:List Value):∃ g a b,Qw f vs=.func (.func g) a b:=by
 unfold Qw; cases zJ 1000000 f<;>exact⟨_,_,_,rfl⟩
inductive RD(Z:KS):D->Value->Prop
 | qi (τ:Ty) (x:den τ) (cs:List Value) (h:Rc Z.w Z.ok τ x cs):RD Z (.qi τ x) (pk τ cs)
 | vy (e:Ty) (a:Option Addr):RD Z (.tight e ([]:List (den e)) false) (.slice a 0 0)
 | tight (e:Ty) (l:List (den e)) (ne:Bool) (blk off:Nat) (f:Nat->List Value) (jZ:ne=true->l≠[]) (j3:Z.ok blk)
   (h:∀ i (hi:i<l.length),Rc Z.w Z.ok e l[i] (f i))
   (hc:∀ i,i<l.length->∀ j v,(f i)[j]? = some v->Z.w.cell? ⟨blk,off+i*e.size+j,none⟩=some v) :
   RD Z (.tight e l ne) (.slice (some ⟨blk,off,none⟩) l.length l.length)
 | so (e:Ty) (l:List (den e)) (b:Bool) (v:Value) (h:Rc Z.w Z.ok (.sl e) l [v]) (ht:b=true->∃ blk off cap,v=.slice (some ⟨blk,off,none⟩) l.length cap/\(l=[]->cap=0)) (hf:b=false->v=.slice none 0 0):RD Z (.so e l b) v
 | wF:RD Z .wF (.slice none 0 0)
 | gX:RD Z .gX (.pointer none)
 | v8:RD Z .v8 .nilIface
 | gj:RD Z .gj .nilFunc
 | uT:RD Z .uT (.map none)
 | WI (v:Value) (h:v.oneCell'=true):RD Z .WI v
 | mP (T:Nat):RD Z (.mP T) (.pointer none)
 | yL (b blk n:Nat) (d:D) (J:Z.st[b]? = some (.var d)) (h:Z.ph[b]? = some (some (blk,n))):RD Z (.yL b) (.map (some blk))
 | nk (b T:Nat) (d:D) (J:Z.st[b]? = some (.var d)):RD Z (.en b T) (.pointer none)
 | nn (b T blk n:Nat) (d:D) (J:Z.st[b]? = some (.var d)) (h:Z.ph[b]? = some (some (blk,n))):RD Z (.en b T) (.pointer (some ⟨blk,0,none⟩))
 | ptr (b off blk n:Nat) (d:D) (J:Z.st[b]? = some (.var d)) (h:Z.ph[b]? = some (some (blk,n))):RD Z (.ptr b off) (.pointer (some ⟨blk,off,none⟩))
 | vz (τ:Ty) (x:den τ) (cs:List Value) (blk off:Nat) (j3:Z.ok blk) (h:Rc Z.w Z.ok τ x cs)
   (hc:∀ j v,cs[j]? = some v->Z.w.cell? ⟨blk,off+j,none⟩=some v):RD Z (.vz τ x) (.pointer (some ⟨blk,off,none⟩))
 | gJ (b vi:Nat) (e:Ty) (idx off blk o:Nat) (I:Old Z.st b vi)
   (h:∀ xs:List (den e),Z.st[b]? = some (.arr vi e xs)->idx<xs.length->∃ n:Nat,Z.ph[b]? = some (some (blk,n))/\o=idx*e.size+off) :
   RD Z (.gJ b vi e idx off) (.pointer (some ⟨blk,o,none⟩))
 | ms (b vi:Nat) (e:Ty) (off len cap:Nat) (a:Option Addr) (I:Old Z.st b vi) (jg:len<=cap) (ha:a=none->cap=0) (Ws:∀ p,a=some p->p.spot=none)
   (h:∀ xs:List (den e),Z.st[b]? = some (.arr vi e xs)->Mo Z.ph b xs.length e off len (.slice a len cap)):RD Z (.ms b vi e off len) (.slice a len cap)
 | wi (f:Nat) (l:List D) (vs:List Value) (R:l.length=vs.length) (h:∀ i (h1:i<l.length) (M:i<vs.length),RD Z l[i] vs[i]):RD Z (.wi f l) (Qw f vs)
 | agg (l:List D) (vs:List Value) (R:l.length=vs.length) (ho:∀ d∈l,d.one=true) (h:∀ i (h1:i<l.length) (M:i<vs.length),RD Z l[i] vs[i]):RD Z (.agg l) (.agg vs.toArray)
 | eG (l:List D) (vs:List Value) (R:l.length=vs.length) (h:∀ i (h1:i<l.length) (M:i<vs.length),RD Z l[i] vs[i]):RD Z (.eG l) (.tuple vs.toArray)
 | iface (t:Nat) (d:D) (v:Value) (h:RD Z d v):RD Z (.iface t d) (.iface t v)
def wN(Z:KS)(l:List D)(vs:List Value):Prop:=l.length=vs.length/\∀ i (h1:i<l.length) (M:i<vs.length),RD Z l[i] vs[i]
def Tn(o:Obj)(l:List Int):Prop:=∀ (P:Program) (k e:TypeId),P.underlying k=some (.int .i64)->P.underlying e=some .bool->∀ (w:World) (b:Nat),w.heap[b]? = some o ->
 ∃ D:DataW Unit,w.ownsMap P k (plainElem P e) b l.length D/\Go.Maps.IsMap D/\∀ n,(Lit.int .i64 n).wf=true->D.atKey (.int .i64 n) (.lit (.bool false))=.lit (.bool (l.contains n))
def Cells(Z:KS)(b:Nat)(d:D):Prop:=∃ (blk n:Nat) (cs:Array Value) (t:TypeId),Z.ph[b]? = some (some (blk,n))/\Z.w.heap[blk]? = some (.cells cs t (0,0))/\cs.size=n/\wN Z (xy d) cs.toList/\(∀ x∈xy d,x.one=true)/\∀ T,d.typed=some T->t=T
def Maps(Z:KS)(b:Nat)(l:List Int):Prop:=∃ (blk:Nat) (o:Obj),Z.ph[b]? = some (some (blk,0))/\Z.w.heap[blk]? = some o/\Tn o l
def kR(Z:KS)(b:Nat)(d:D):Prop:=match d with
 | .Bm l=>Maps Z b l
 | d=>Cells Z b d
theorem kR.elim{Z:KS}{b:Nat}{d:D}{p:Prop}(h:kR Z b d)(h1:d.Yt=false->Cells Z b d->p)(M:∀ l,d=.Bm l->Maps Z b l->p):p:=by
 cases d<;>first | exact M _ rfl h | exact h1 rfl h
theorem kR.cells{Z:KS}{b:Nat}{d:D}(h:kR Z b d)(hm:d.Yt=false):Cells Z b d:=h.elim (λ_ h=>h) λl e _=>by subst e; cases hm
theorem kR.mk{Z:KS}{b:Nat}{d:D}(hm:d.Yt=false)(h:Cells Z b d):kR Z b d:=by
 cases d<;>first | exact h | cases hm
def pB[Wm](Z:KS)(b:Nat):cL->Prop
 | .dead=>True
 | .var d=>kR Z b d
 | .arr _ e xs=>0<e.size/\((xs=[]/\Z.ph[b]? = some none) \/
   ∃ (blk n:Nat) (cs:Array Value) (t:TypeId),Z.ph[b]? = some (some (blk,n))/\Z.w.heap[blk]? = some (.cells cs t (0,0))/\cs.size=n/\xs.length*e.size<=n/\zad e t /\
    ∃ f:Nat->List Value,∀ i (hi:i<xs.length),Rc Z.w Z.ok e xs[i] (f i)/\∀ j v,(f i)[j]? = some v->cs[i*e.size+j]? = some v)
class yY extends Wm where
 tab:List (Nat×(Obj->Prop))
def WM[yY](w:World)(ok:Nat->Prop):Prop:=∀ x∈yY.tab,ok x.1/\∃ o,w.heap[x.1]? = some o/\x.2 o
theorem WM.mono[yY]{w w':World}{ok JV:Nat->Prop}(h:WM w ok)(hs:I9 w w' ok JV):WM w' JV:=λx N=>by
 obtain⟨h1,o,M,h3⟩:=h x N
 obtain⟨g1,g2⟩:=hs _ h1
 grind
structure Inv[yY](Z:KS):Prop where
 len:Z.ph.length=Z.st.length
 bN:∀ k,Z.ok k->k<Z.w.heap.size
 apart:∀ (b blk n:Nat),Z.ph[b]? = some (some (blk,n))->blk<Z.w.heap.size/\¬ Z.ok blk
 inj:∀ (b b' blk n n':Nat),Z.ph[b]? = some (some (blk,n))->Z.ph[b']? = some (some (blk,n'))->b=b'
 blk:∀ (b:Nat) (x:cL),Z.st[b]? = some x->pB Z b x
 gl:WM Z.w Z.ok
structure Ext(Z Y:KS):Prop where
 os:Y.w.os=Z.w.os
 tape:Y.w.tape=Z.w.tape
 output:Y.w.output=Z.w.output
 size:Z.w.heap.size<=Y.w.heap.size
 same:I9 Z.w Y.w Z.ok Y.ok
 fresh:∀ k,Y.ok k->Z.ok k\/Z.w.heap.size<=k\/∃ b n:Nat,Z.ph[b]? = some (some (k,n))
 phs:∀ (b blk n:Nat),Y.ph[b]? = some (some (blk,n))->Z.ph[b]? = some (some (blk,n))\/Z.w.heap.size<=blk
 var:∀ (b:Nat) (d:D),Z.st[b]? = some (.var d)->(∃ d',Y.st[b]? = some (.var d'))/\Y.ph[b]? = Z.ph[b]?
 arr:∀ (b v0:Nat) (e:Ty) (Vu:List (den e)),Z.st[b]? = some (.arr v0 e Vu)->Y.st[b]? = some .dead \/
  ∃ (v1:Nat) (xs1:List (den e)),Y.st[b]? = some (.arr v1 e xs1)/\v0<=v1/\(v0=v1->Y.ph[b]? = Z.ph[b]? /\ Vu.length=xs1.length)
 dead:∀ (b:Nat),Z.st[b]? = some .dead->Y.st[b]? = some .dead
 Fz:Z.st.length<=Y.st.length
 frame:∀ k,k<Z.w.heap.size->(∀ (b n:Nat),Z.ph[b]? ≠ some (some (k,n)))->Y.w.heap[k]? = Z.w.heap[k]?
theorem Ext.refl(Z:KS):Ext Z Z :=
 ⟨rfl,rfl,rfl,zF _,λ_ h=>⟨h,rfl⟩,λ_ h=>.inl h,λ_ _ _ h=>.inl h,λ_ d h=>⟨⟨d,h⟩,rfl⟩,
  λ_ vi _ xs h=>.inr ⟨vi,xs,h,zF _,λ_=>⟨rfl,rfl⟩⟩,λ_ h=>h,zF _,λ_ _ _=>rfl⟩
theorem Ext.trans{a b c:KS}(h:Ext a b)(k:Ext b c):Ext a c:=by
 refine⟨k.os.trans h.os,k.tape.trans h.tape,k.output.trans h.output,zS h.size k.size,?_,?_,?_,?_,?_,λb I=>k.dead b (h.dead b I),zS h.Fz k.Fz,?_⟩
 ·intro i hi
  obtain⟨h1,M⟩:=h.same i hi
  obtain⟨h3,h4⟩:=k.same i h1
  grind
 ·intro i hi
  rcases k.fresh i hi with h1 | h1 | ⟨b,n,h1⟩
  ·exact h.fresh i h1
  ·exact .inr (.inl (zS h.size h1))
  ·rcases h.phs b i n h1 with M | M
   ·grind
   ·grind
 ·intro i blk n hi
  rcases k.phs i blk n hi with h1 | h1
  ·exact h.phs i blk n h1
  ·exact .inr (zS h.size h1)
 ·intro i d hi
  obtain⟨⟨d',ef⟩,hp⟩:=h.var i d hi
  obtain⟨zrQ,hp'⟩:=k.var i d' ef
  grind
 ·intro i v0 e Vu hi
  rcases h.arr i v0 e Vu hi with h1 | ⟨v1,x1,h1,M,h3⟩
  ·exact .inl (k.dead i h1)
  ·rcases k.arr i v1 e x1 h1 with g1 | ⟨v2,x2,g1,g2,g3⟩
   ·grind
   ·grind
 ·intro i hi hn
  refine(k.frame i (Nat.lt_of_lt_of_le hi h.size) λb n I => ?_).trans (h.frame i hi hn)
  rcases h.phs b i n I with h1 | h1
  ·grind
  ·omega
theorem Ext.old{Z Y:KS}(x:Ext Z Y){b vi:Nat}(h:Old Z.st b vi):Old Y.st b vi:=by
 rcases h with h | ⟨v0,e0,Vu,h,hv⟩
 ·exact .inl (x.dead b h)
 ·rcases x.arr b v0 e0 Vu h with h1 | ⟨v1,x1,h1,M,_⟩
  ·exact .inl h1
  ·exact .inr ⟨v1,e0,x1,h1,zS hv M⟩
theorem Ext.back{Z Y:KS}(x:Ext Z Y){b vi:Nat}(h:Old Z.st b vi){e:Ty}{xs:List (den e)}(N:Y.st[b]? = some (.arr vi e xs)) :
  ∃ Vu:List (den e),Z.st[b]? = some (.arr vi e Vu)/\Y.ph[b]? = Z.ph[b]? /\ Vu.length=xs.length:=by
 rcases h with h | ⟨v0,e0,Vu,h,hv⟩
 ·have:=x.dead b h; rw[N]at this; cases this
 ·rcases x.arr b v0 e0 Vu h with h1 | ⟨v1,x1,h1,M,h3⟩
  ·grind
  ·grind
theorem RD.mono{Z Y:KS}(x:Ext Z Y){d:D}{v:Value}(h:RD Z d v):RD Y d v:=by
 induction h with
 | qi τ y cs h=>exact .qi τ y cs (h.mono x.same)
 | vy e a=>exact .vy e a
 | tight e l ne blk off f jZ j3 h hc=>exact .tight e l ne blk off f jZ (x.same _ j3).1 (λi hi=>(h i hi).mono x.same) λi hi j v hv=>by rw[lJ (x.same _ j3).2]; exact hc i hi j v hv
 | so e l b v h ht hf=>exact .so e l b v (h.mono x.same) ht hf
 | wF=>exact .wF
 | gX=>exact .gX
 | v8=>exact .v8
 | gj=>exact .gj
 | uT=>exact .uT
 | WI v h=>exact .WI v h
 | mP T=>exact .mP T
 | nk b T d J =>
  obtain⟨⟨d',ef⟩,hp⟩:=x.var b d J
  exact .nk b T d' ef
 | yL b blk n d J h =>
  obtain⟨⟨d',ef⟩,hp⟩:=x.var b d J
  exact .yL b blk n d' ef (hp.trans h)
 | nn b T blk n d J h =>
  obtain⟨⟨d',ef⟩,hp⟩:=x.var b d J
  exact .nn b T blk n d' ef (hp.trans h)
 | ptr b off blk n d J h =>
  obtain⟨⟨d',ef⟩,hp⟩:=x.var b d J
  exact .ptr b off blk n d' ef (hp.trans h)
 | vz τ y cs blk off j3 h hc=>exact .vz τ y cs blk off (x.same _ j3).1 (h.mono x.same) λj v hv=>by rw[lJ (x.same _ j3).2]; exact hc j v hv
 | gJ b vi e idx off blk o I h =>
  refine .gJ b vi e idx off blk o (x.old I) λxs N hi => ?_
  obtain⟨Vu,h1,M,h3⟩:=x.back I N
  grind
 | ms b vi e off len cap a I jg ha Ws h =>
  refine .ms b vi e off len cap a (x.old I) jg ha Ws λxs N => ?_
  obtain⟨Vu,h1,M,h3⟩:=x.back I N
  have:=h Vu h1
  unfold Mo at this ⊢
  grind
 | wi f l vs R h ih=>exact .wi f l vs R ih
 | agg l vs R ho h ih=>exact .agg l vs R ho ih
 | eG l vs R h ih=>exact .eG l vs R ih
 | iface t d v h ih=>exact .iface t d v ih
end Go.AM
namespace Go.AM
section
variable {α β:Type}
theorem T.xg{t:T α}{k:α->T β}{b:β}:(t.bind k).leads b↔∃ a,t.leads a/\(k a).leads b:=by
 induction t with
 | ret a=>simp[T.bind,T.leads]
 | ite c t e i1 i2 =>
  simp only[T.bind,T.leads]
  grind
 | W p t ih =>
  simp only[T.bind,T.leads]; constructor
  ·grind
  ·grind
 | fail=>simp[T.bind,T.leads]
theorem T.FK{t:T α}{Q:α->Prop}(h:t.wp Q):∃ a,t.leads a/\Q a:=by
 induction t with
 | ret a=>exact⟨a,rfl,h⟩
 | ite c t e i1 i2 =>
  cases c with
  | true=>obtain⟨a,x,y⟩:=i1 (h.1 rfl); exact⟨a,.inl ⟨rfl,x⟩,y⟩
  | false=>obtain⟨a,x,y⟩:=i2 (h.2 rfl); exact⟨a,.inr ⟨rfl,x⟩,y⟩
 | W p t ih=>obtain⟨a,x,y⟩:=ih h.2; exact⟨a,⟨h.1,x⟩,y⟩
 | fail=>exact h.elim
theorem T.K6{t:T α}{Q:α->Prop}{a:α}(h:t.leads a)(hq:Q a):t.wp Q:=by
 induction t with
 | ret x=>cases h; exact hq
 | ite c t e i1 i2 =>
  rcases h with⟨h1,M⟩ | ⟨h1,M⟩
  ·exact⟨λ_=>i1 M,λk=>absurd (h1.symm.trans k) (qz)⟩
  ·exact⟨λk=>absurd (h1.symm.trans k) (qz),λ_=>i2 M⟩
 | W p t ih=>exact⟨h.1,ih h.2⟩
 | fail=>exact h.elim
theorem T.yu{o:Option α}{a:α}:(T.G0 o).leads a↔o=some a:=by cases o<;>simp[T.G0,T.leads]
end
section
variable {Z:KS}
theorem wN.nil:wN Z [] []:=⟨rfl,λi h _=>absurd h (Nat.not_lt_zero i)⟩
theorem wN.cons{d:D}{v:Value}{l:List D}{vs:List Value}(h:RD Z d v)(t:wN Z l vs):wN Z (d::l) (v::vs) :=
 ⟨by simp[t.1],λi h1 M=>by cases i with | zero=>exact h | succ i=>exact t.2 i (xz) (xz)⟩
theorem wN.cons_inv{d:D}{l:List D}{vs:List Value}(h:wN Z (d::l) vs):∃ v r,vs=v::r/\RD Z d v/\wN Z l r:=by
 obtain⟨R,h⟩:=h
 cases vs with
 | nil=>simp at R
 | cons v r=>exact⟨v,r,rfl,h 0 (qz) (qz),xz,λi h1 M=>h (i+1) (xz) (xz)⟩
theorem wN.we{vs:List Value}(h:wN Z [] vs):vs=[]:=List.eq_nil_of_length_eq_zero h.1.symm
theorem wN.append{l l':List D}{vs vs':List Value}(h:wN Z l vs)(h':wN Z l' vs'):wN Z (l++l') (vs++vs'):=by
 induction l generalizing vs with
 | nil=>rw[h.we]; exact h'
 | cons d l ih=>obtain⟨v,r,rfl,h1,M⟩:=h.cons_inv; exact .cons h1 (ih M)
theorem wN.Ic{l l':List D}{vs:List Value}(h:wN Z (l++l') vs):∃ v1 v2,vs=v1++v2/\wN Z l v1/\wN Z l' v2:=by
 induction l generalizing vs with
 | nil=>exact⟨[],vs,rfl,.nil,h⟩
 | cons d l ih =>
  obtain⟨v,r,rfl,h1,M⟩:=h.cons_inv
  obtain⟨v1,v2,rfl,h3,h4⟩:=ih M
  exact⟨v::v1,v2,rfl,.cons h1 h3,h4⟩
theorem wN.get{l:List D}{vs:List Value}(h:wN Z l vs){i:Nat}{d:D}(J:l[i]? = some d):∃ v,vs[i]? = some v/\RD Z d v:=by
 obtain⟨wM,he⟩:=List.getElem?_eq_some_iff.1 J
 have M:i<vs.length:=h.1▸wM
 exact⟨vs[i],zP M,he▸h.2 i wM M⟩
theorem wN.take{l:List D}{vs:List Value}(h:wN Z l vs)(n:Nat):wN Z (l.take n) (vs.take n) :=
 ⟨by simp[h.1],λi h1 M=>by simp; exact h.2 i (xz) (xz)⟩
theorem wN.drop{l:List D}{vs:List Value}(h:wN Z l vs)(n:Nat):wN Z (l.drop n) (vs.drop n) :=
 ⟨by simp[h.1],λi h1 M=>by simp; exact h.2 (n+i) (xz) (xz)⟩
theorem wN.mono{Y:KS}(x:Ext Z Y){l:List D}{vs:List Value}(h:wN Z l vs):wN Y l vs:=⟨h.1,λi h1 M=>(h.2 i h1 M).mono x⟩
theorem Ux{τ:Ty}{cs:List Value}(h:cs.length=τ.size)(ZM:∀ v∈cs,v.oneCell'=true):(pk τ cs).cells.toList=cs:=by
 unfold pk
 split
 ·rfl
 ·rename_i hn
  have hs:τ.size=1:=by cases τ<;>simp[Ty.isAgg]at hn<;>rfl
  match cs,h,ZM with
  | [v],_,ZM =>
   have:=ZM v (qz)
   cases v<;>first | rfl | cases this
  | [],h,_=>grind
  | _::_::_,h,_=>grind
theorem G8{τ:Ty}(h:τ.isAgg=false)(v:Value):pk τ [v]=v:=by simp[pk,h]
theorem JW{τ:Ty}(h:τ.isAgg=false):τ.size=1:=by cases τ<;>simp[Ty.isAgg]at h<;>rfl
theorem Rc.single{w:World}{ok:Nat->Prop}{τ:Ty}{x:den τ}{cs:List Value}(h:Rc w ok τ x cs)(ht:τ.isAgg=false):∃ v,cs=[v]:=by
 have:=h.len
 rw[JW ht]at this
 match cs,this with
 | [v],_=>simp
theorem RD.tY{τ:Ty}{x:den τ}{v:Value}(ht:τ.isAgg=false)(h:Rc Z.w Z.ok τ x [v]):RD Z (.qi τ x) v:=by
 have:=RD.qi τ x [v] h
 rwa [G8 ht]at this
theorem RD.cP{τ:Ty}{x:den τ}{v:Value}(h:RD Z (.qi τ x) v):∃ cs,Rc Z.w Z.ok τ x cs/\v=pk τ cs:=by
 cases h with | qi _ _ cs h=>exact⟨cs,h,rfl⟩
theorem RD.jF{τ:Ty}{x:den τ}{v:Value}(h:RD Z (.qi τ x) v)(ht:τ.isAgg=false):Rc Z.w Z.ok τ x [v]:=by
 obtain⟨cs,hc,rfl⟩:=RD.cP h
 obtain⟨u,rfl⟩:=hc.single ht
 rwa [G8 ht]
theorem RD.int{k:IntKind}{n:Int}:RD Z (.qi (.int k) n) (.int k n):=RD.tY rfl (.int k n)
theorem RD.bool{b:Bool}:RD Z (.qi .bool b) (.bool b):=RD.tY rfl (.bool b)
theorem RD.str{s:zx}:RD Z (.qi .str s) (.string ⟨s.toArray⟩):=RD.tY rfl (.str s)
theorem RD.dO{k:IntKind}{n:Int}{v:Value}(h:RD Z (.qi (.int k) n) v):v=.int k n:=by have:=(h.jF rfl).dO; simpa using this
theorem RD.cr{b:Bool}{v:Value}(h:RD Z (.qi .bool b) v):v=.bool b:=by have:=(h.jF rfl).cr; simpa using this
theorem RD.jc{s:zx}{v:Value}(h:RD Z (.qi .str s) v):v=.string ⟨s.toArray⟩:=by have:=(h.jF rfl).jc; simpa using this
theorem wN.one{d:D}{v:Value}(h:RD Z d v):wN Z [d] [v]:=.cons h .nil
theorem QZ{τ:Ty}{x:den τ}{cs:List Value}(h:Rc Z.w Z.ok τ x cs):wN Z (flat τ x) cs:=by
 induction τ generalizing cs with
 | int k=>obtain⟨v,rfl⟩:=h.single rfl; exact .one (.tY rfl h)
 | bool=>obtain⟨v,rfl⟩:=h.single rfl; exact .one (.tY rfl h)
 | str=>obtain⟨v,rfl⟩:=h.single rfl; exact .one (.tY rfl h)
 | sl e _=>obtain⟨v,rfl⟩:=h.single rfl; exact .one (.tY rfl h)
 | nil=>rw[h.we]; exact .nil
 | cons a b i1 i2=>obtain⟨c1,c2,rfl,h1,M⟩:=h.cons_inv; exact(i1 h1).append (i2 M)
 | expr =>
  obtain⟨c1,r1,rfl,h1,t1⟩:=h.Eg.cons_inv
  obtain⟨c2,r2,rfl,M,t2⟩:=t1.cons_inv
  obtain⟨c3,r3,rfl,h3,t3⟩:=t2.cons_inv
  obtain⟨c4,r4,rfl,h4,t4⟩:=t3.cons_inv
  have e4:=t4.we
  subst e4
  obtain⟨d1,s1,rfl,g1,u1⟩:=M.cons_inv
  obtain⟨d2,s2,rfl,g2,u2⟩:=u1.cons_inv
  obtain⟨d3,s3,rfl,g3,u3⟩:=u2.cons_inv
  have e5:=u3.we
  subst e5
  obtain⟨v1,rfl⟩:=h1.single rfl
  obtain⟨v3,rfl⟩:=h3.single rfl
  obtain⟨v4,rfl⟩:=h4.single rfl
  obtain⟨u1,rfl⟩:=g1.single rfl
  obtain⟨u2,rfl⟩:=g2.single rfl
  obtain⟨u3,rfl⟩:=g3.single rfl
  exact .cons (.tY rfl h1) (.cons (.tY rfl g1) (.cons (.tY rfl g2) (.cons (.tY rfl g3) (.cons (.tY rfl h3) (.cons (.tY rfl h4) .nil)))))
theorem ri:∀ (τ:Ty) (x:den τ),∀ d∈flat τ x,d.one=true
 | .int _,_,d,h | .bool,_,d,h | .str,_,d,h | .sl _,_,d,h=>by simp[flat]at h; subst h; rfl
 | .nil,_,d,h=>by simp[flat]at h
 | .cons a b,x,d,h=>by
  simp only[flat,List.mem_append]at h
  rcases h with h | h
  ·exact ri a x.1 d h
  ·exact ri b x.2 d h
 | .expr,x,d,h=>by simp[flat]at h; rcases h with rfl | rfl | rfl | rfl | rfl | rfl<;>rfl
theorem VY:∀ (τ:Ty) (x:den τ),(flat τ x).length=τ.size
 | .int _,_ | .bool,_ | .str,_ | .sl _,_ | .nil,_ | .expr,_=>rfl
 | .cons a b,x=>by simp[flat,Ty.size,VY a,VY b]
theorem W4{v:Value}(h:v.oneCell'=true):v.cells = #[v]:=by
 cases v<;>first | rfl | cases h
theorem cz{d:D}{v:Value}(h:RD Z d v)(ht:d.bB=false):wN Z (xy d) v.cells.toList:=by
 cases h with
 | qi τ x cs h=>rw[Ux h.len h.one]; exact QZ h
 | agg l vs R ho h=>exact⟨by simpa[qA,xy]using R,λi h1 M=>by simp at M ⊢; exact h i h1 M⟩
 | eG=>cases ht
 | vy e a=>exact .one (.vy e a)
 | tight e l ne blk off f jZ j3 h hc=>exact .one (.tight e l ne blk off f jZ j3 h hc)
 | so e l b v h ht hf=>rw[W4 (h.one v (qz))]; exact .one (.so e l b v h ht hf)
 | wF=>exact .one .wF
 | gX=>exact .one .gX
 | v8=>exact .one .v8
 | gj=>exact .one .gj
 | uT=>exact .one .uT
 | WI v h=>rw[W4 h]; exact .one (.WI v h)
 | mP T=>exact .one (.mP T)
 | yL b blk n d J h=>exact .one (.yL b blk n d J h)
 | nk b T d J=>exact .one (.nk b T d J)
 | nn b T blk n d J h=>exact .one (.nn b T blk n d J h)
 | ptr b off blk n d J h=>exact .one (.ptr b off blk n d J h)
 | vz τ x cs blk off j3 h hc=>exact .one (.vz τ x cs blk off j3 h hc)
 | gJ b vi e idx off blk o I h=>exact .one (.gJ b vi e idx off blk o I h)
 | ms b vi e off len cap a I jg ha Ws h=>exact .one (.ms b vi e off len cap a I jg ha Ws h)
 | wi f l vs R h=>rw[Y8]; exact .one (.wi f l vs R h)
 | iface t d v h=>exact .one (.iface t d v h)
theorem cy{d:D}{v:Value}(h:RD Z d v):∀ x∈xy d,x.one=true:=by
 cases h with
 | qi τ x cs h=>exact ri τ x
 | agg l vs R ho h=>exact ho
 | eG=>nofun
 | _=>intro x N; simp[xy]at N; subst N; rfl
theorem RD.KG{d:D}{v:Value}(h:RD Z d v)(ho:d.one=true):v.oneCell'=true:=by
 cases h with
 | qi τ x cs h =>
  have ht:τ.isAgg=false:=by simpa[D.one]using ho
  obtain⟨v,rfl⟩:=h.single ht
  rw[G8 ht]
  exact h.one v (qz)
 | agg=>cases ho
 | eG=>cases ho
 | WI v h=>exact h
 | wi f l vs=>exact TN f vs
 | so e l b v h=>exact h.one v (qz)
 | _=>rfl
theorem wg{a b:Ty}{x:den a}{y:den b}(h:(jP x:Option (den b))=some y):∃ e:a=b,y=e▸x:=by
 unfold jP at h
 grind
theorem ev{τ:Ty}{d:D}{v:Value}{x:den τ}(h:RD Z d v)(N:pG τ d=some x)(ht:τ.isAgg=false):Rc Z.w Z.ok τ x [v]:=by
 cases h with
 | qi σ y cs h =>
  obtain⟨rfl,rfl⟩:=wg N
  obtain⟨u,rfl⟩:=h.single ht
  rwa [G8 ht]
 | vy e a=>obtain⟨rfl,rfl⟩:=wg N; exact .lA e a
 | tight e l ne blk off f jZ j3 h hc=>obtain⟨rfl,rfl⟩:=wg N; exact .sl e _ blk off _ f j3 (zF _) h hc
 | so e l b v h ht hf=>obtain⟨rfl,rfl⟩:=wg N; exact h
 | wF =>
  cases τ with
  | sl e=>simp[pG]at N; subst N; exact .lA e none
  | _=>simp[pG]at N
 | _=>simp[pG]at N
theorem Wl:∀ (τ:Ty) {ds:List D} {vs:List Value} {x:den τ} {r:List D},wN Z ds vs->cK τ ds=some (x,r) ->
  ∃ c1 c2,vs=c1++c2/\Rc Z.w Z.ok τ x c1/\wN Z r c2
 | .int k,[],_,_,_,_,he | .bool,[],_,_,_,_,he | .str,[],_,_,_,_,he | .sl e,[],_,_,_,_,he | .expr,[],_,_,_,_,he=>by simp[cK]at he
 | .int k,d::r,vs,x,r',h,he=>by
  simp only[cK]at he
  split at he
  ·rename_i y hy; cases he; obtain⟨v,u,rfl,h1,M⟩:=h.cons_inv; exact⟨[v],u,rfl,ev h1 hy rfl,M⟩
  ·cases he
 | .bool,d::r,vs,x,r',h,he=>by
  simp only[cK]at he
  split at he
  ·rename_i y hy; cases he; obtain⟨v,u,rfl,h1,M⟩:=h.cons_inv; exact⟨[v],u,rfl,ev h1 hy rfl,M⟩
  ·cases he
 | .str,d::r,vs,x,r',h,he=>by
  simp only[cK]at he
  split at he
  ·rename_i y hy; cases he; obtain⟨v,u,rfl,h1,M⟩:=h.cons_inv; exact⟨[v],u,rfl,ev h1 hy rfl,M⟩
  ·cases he
 | .sl e,d::r,vs,x,r',h,he=>by
  simp only[cK]at he
  split at he
  ·rename_i y hy; cases he; obtain⟨v,u,rfl,h1,M⟩:=h.cons_inv; exact⟨[v],u,rfl,ev h1 hy rfl,M⟩
  ·cases he
 | .nil,ds,vs,x,r,h,he=>by simp only[cK]at he; cases he; exact⟨[],vs,rfl,.nil,h⟩
 | .cons a b,ds,vs,x,r,h,he=>by
  simp only[cK]at he
  split at he
  ·rename_i y r' hy
   split at he
   ·rename_i z r'' hz
    cases he
    obtain⟨c1,c2,rfl,h1,M⟩:=Wl a h hy
    obtain⟨c3,c4,rfl,h3,h4⟩:=Wl b M hz
    exact⟨c1++c3,c4,qz,.cons a b y z c1 c3 h1 h3,h4⟩
   ·cases he
  ·cases he
 | .expr,d::r,vs,x,r',h,he=>by
  simp only[cK]at he
  split at he
  ·cases he
  ·rename_i k hk
   split at he
   ·rename_i d1 d2 d3 d4 d5 r0
    split at he
    ·rename_i a n m s l ha hn hm hs R
     cases he
     obtain⟨v,u,rfl,h0,t0⟩:=h.cons_inv
     obtain⟨v1,u1,rfl,h1,t1⟩:=t0.cons_inv
     obtain⟨v2,u2,rfl,M,t2⟩:=t1.cons_inv
     obtain⟨v3,u3,rfl,h3,t3⟩:=t2.cons_inv
     obtain⟨v4,u4,rfl,h4,t4⟩:=t3.cons_inv
     obtain⟨v5,u5,rfl,h5,t5⟩:=t4.cons_inv
     refine⟨[v]++(([v1]++([v2]++([v3]++[])))++([v4]++([v5]++[]))),u5,qz,.expr _ _ _ _ _ ?_,t5⟩
     exact .cons i64 _ k _ _ _ (ev h0 hk rfl) (.cons Bu _ (a,n,m,()) _ _ _ (.cons .bool _ a _ _ _ (ev h1 ha rfl) (.cons _ _ n _ _ _ (ev M hn rfl) (.cons _ _ m _ _ _ (ev h3 hm rfl) .nil)))
      (.cons .str _ s _ _ _ (ev h4 hs rfl) (.cons _ _ l _ _ _ (ev h5 R rfl) .nil)))
    ·cases he
   ·cases he
theorem mv{τ:Ty}{d:D}{v:Value}{x:den τ}(h:RD Z d v)(N:ov τ d=some x):RD Z (.qi τ x) v:=by
 have key:(∀ σ y,d≠.qi σ y)->(bif (d.isAgg==τ.isAgg) && !d.bB then(match cK τ (xy d)with | some (x,[])=>some x | _=>none)else none)=some x->RD Z (.qi τ x) v:=by
  intro hni N
  cases hc:(d.isAgg==τ.isAgg) && !d.bB with
  | false=>grind
  | true =>
  rw[hc]at N
  simp at hc
  obtain⟨zbx,H6⟩:=hc
  split at N
  ·rename_i y hy
   cases N
   obtain⟨c1,c2,he,h1,M⟩:=Wl τ (cz h H6) hy
   have e2:=M.we
   subst e2
   rw[List.append_nil]at he
   have hv:v=pk τ c1:=by
    rw[<- he]
    cases J:d.isAgg with
    | true =>
     cases d<;>simp[D.isAgg]at J
     cases h with | agg l vs R ho h=>simp[pk,D.isAgg]at zbx ⊢; simp[<- zbx,qA]
    | false =>
     simp only[pk,<- zbx]
     cases h<;>first | rfl | (rw[Y8]; rfl) | (rename_i h _ _; rw[W4 (h.one _ (List.mem_singleton.2 rfl))]; rfl) | (rename_i hu; rw[W4 hu]; rfl) | (rename_i σ y cs hc; exact absurd rfl (hni σ y)) | (simp at J; done) | (simp at H6; done)
   rw[hv]
   exact .qi τ _ c1 h1
  ·cases N
 cases d with
 | qi σ y=>obtain⟨rfl,rfl⟩:=wg N; exact h
 | Bm l=>cases N
 | _=>exact key (λ_ _=>nofun) N
end
end Go.AM
namespace Go.AM
set_option linter.unusedSectionVars false
variable [yY]
def wz(P:Program)(s:Sem Next)(Z:KS)(d:Option D)(ql:St):Prop :=
 ∃ (Y:KS) (n:Next) (v:Value),s.run P Z.w=.ok n Y.w/\(n=.value v\/(n=.skip/\v=undef))/\Y.st=ql/\Inv Y/\Ext Z Y/\∀ d',d=some d'->RD Y d' v
section
variable {c:Ctx} {Z:KS}
theorem wz.pure{s:Sem Value}{d:D}{v:Value}(hi:Inv Z)(h:s.run c.P Z.w=.ok v Z.w)(J:RD Z d v):wz c.P (do zG (.value (<- s))) Z (some d) Z.st :=
 ⟨Z,.value v,v,by simp[h],.inl rfl,rfl,hi,Ext.refl Z,λ_ he=>xz⟩
theorem wz.val{d:Option D}{v:Value}(hi:Inv Z)(J:∀ d',d=some d'->RD Z d' v):wz c.P (zG (.value v)) Z d Z.st :=
 ⟨Z,.value v,v,rfl,.inl rfl,rfl,hi,Ext.refl Z,J⟩
theorem ml{t n:Nat}(h:td c t=some n):∃ i,c.P.info? t=some i/\i.size=n:=by
 unfold td at h
 cases hi:c.P.info? t with
 | none=>grind
 | some i=>grind
theorem run_sizeOf{t n:Nat}(h:td c t=some n)(w:World):(sizeOf t).run c.P w=.ok n w:=by
 obtain⟨i,h1,M⟩:=ml h
 simp[sizeOf,typeInfo,h1,M]
theorem We{t:Nat}{b:Bool}(h:DF c t=some b)(w:World):(isAgg t).run c.P w=.ok b w:=by
 unfold DF at h
 cases hu:c.P.underlying t with
 | none=>grind
 | some d =>
  simp only[isAgg,X,run_underlying hu]
  cases d<;>simp[hu]at h<;>simp[<- h]
theorem jY{t:Nat}{τ:Ty}(h:ca c t τ=true):td c t=some τ.size/\DF c t=some τ.isAgg:=by
 unfold ca at h
 simp at h
 obtain⟨⟨_,h1⟩,M⟩:=h
 constructor
 ·split at h1
  ·rename_i n hn; rw[hn,zE h1]
  ·cases h1
 ·grind
theorem Ut{t:Nat}{τ:Ty}(h:ca c t τ=true):zad τ t:=by
 unfold ca at h
 simp at h
 intro e
 subst e
 exact zE h.1.1
omit [yY]in
theorem addr_add(blk o j:Nat):(⟨blk,o,none⟩:Addr).add j=⟨blk,o+j,none⟩:=by unfold Addr.add; split<;>simp_all
theorem sV{t:Nat}{b:Bool}{n blk o:Nat}{cs:List Value}(ha:DF c t=some b)(hn:td c t=some n)(R:cs.length=n)(h1:b=false->n=1)
  (hc:∀ j v,cs[j]? = some v->Z.w.cell? ⟨blk,o+j,none⟩=some v) :
  (loadVar t ⟨blk,o,none⟩).run c.P Z.w=.ok (if b then .agg cs.toArray else cs.headD undef) Z.w:=by
 simp only[loadVar,X,We ha]
 cases b with
 | true =>
  simp[if_true,run_sizeOf hn]
  rw[<- R,run_loadCells_list Z.w ⟨blk,o,none⟩ cs (λj v hj=>by rw[addr_add]; exact hc j v hj)]
  simp
 | false =>
  have:=h1 rfl
  subst this
  match cs,R with
  | [v],_ =>
   have:=hc 0 v rfl
   simp at this
   simp[this]
theorem z1a{t:Nat}{τ:Ty}{x:den τ}{cs:List Value}{blk o:Nat}(ht:ca c t τ=true)(h:Rc Z.w Z.ok τ x cs)
  (hc:∀ j v,cs[j]? = some v->Z.w.cell? ⟨blk,o+j,none⟩=some v):(loadVar t ⟨blk,o,none⟩).run c.P Z.w=.ok (pk τ cs) Z.w:=by
 obtain⟨h1,M⟩:=jY ht
 rw[sV (c:=c) M h1 h.len (λe=>JW e) hc]
 rfl
theorem kP{t:T (Option D)}{st ql:St}{d:Option D}:(qu (.val t) st).leads (d,ql)↔t.leads d/\ql=st:=by
 simp only[qu,T.xg,T.leads]
 grind
theorem rF{k:St->T (Option D)}{st ql:St}{d:Option D}:(qu (.rd k) st).leads (d,ql)↔(k st).leads d/\ql=st:=by
 simp only[qu,T.xg,T.leads]
 grind
theorem zh{st:St}{r:Option D×St}:¬ (qu bad st).leads r:=by nofun
theorem dx{x:D}{st ql:St}{d:Option D}:(qu (AM.val x) st).leads (d,ql)↔d=some x/\ql=st:=by
 rw[AM.val,kP]; simp only[T.leads]; exact⟨λh=>⟨h.1.symm,h.2⟩,λh=>⟨h.1.symm,h.2⟩⟩
theorem yy{p:Prop}{x:D}{st ql:St}{d:Option D}:(qu (.val (.W p (.ret (some x)))) st).leads (d,ql)↔p/\d=some x/\ql=st:=by
 rw[kP]; simp only[T.leads]
 grind
theorem YJ{x:Option D}{st ql:St}{d:Option D}(h:(qu (z8D x) st).leads (d,ql)):∃ y,x=some y/\d=some y/\ql=st:=by
 cases x with
 | none=>exact absurd h zh
 | some y=>rw[z8D,kP]at h; exact⟨y,rfl,h.1.symm,h.2⟩
theorem Ku:∀ (τ:Ty) (x:den τ) {cs:List Value},wN Z (flat τ x) cs->Rc Z.w Z.ok τ x cs
 | .int k,x,cs,h=>by obtain⟨v,r,rfl,h1,M⟩:=h.cons_inv; rw[M.we]; exact h1.jF rfl
 | .bool,x,cs,h=>by obtain⟨v,r,rfl,h1,M⟩:=h.cons_inv; rw[M.we]; exact h1.jF rfl
 | .str,x,cs,h=>by obtain⟨v,r,rfl,h1,M⟩:=h.cons_inv; rw[M.we]; exact h1.jF rfl
 | .sl e,x,cs,h=>by obtain⟨v,r,rfl,h1,M⟩:=h.cons_inv; rw[M.we]; exact h1.jF rfl
 | .nil,x,cs,h=>by rw[h.we]; exact .nil
 | .cons a b,x,cs,h=>by
  obtain⟨c1,c2,rfl,h1,M⟩:=wN.Ic h
  exact .cons a b x.1 x.2 c1 c2 (Ku a x.1 h1) (Ku b x.2 M)
 | .expr,.mk k (a,n,m,()) s l,cs,h=>by
  obtain⟨v,u,rfl,h0,t0⟩:=h.cons_inv
  obtain⟨v1,u1,rfl,h1,t1⟩:=t0.cons_inv
  obtain⟨v2,u2,rfl,M,t2⟩:=t1.cons_inv
  obtain⟨v3,u3,rfl,h3,t3⟩:=t2.cons_inv
  obtain⟨v4,u4,rfl,h4,t4⟩:=t3.cons_inv
  obtain⟨v5,u5,rfl,h5,t5⟩:=t4.cons_inv
  rw[t5.we]
  exact .expr _ _ _ _ _ (.cons i64 _ k _ _ _ (h0.jF rfl) (.cons Bu _ (a,n,m,()) _ _ _ (.cons .bool _ a _ _ _ (h1.jF rfl) (.cons (.sl u32) (.cons (.sl u32) .nil) n (m,()) [v2] ([v3]++[]) (M.jF rfl) (.cons (.sl u32) .nil m () [v3] [] (h3.jF rfl) .nil)))
      (.cons .str _ s _ _ _ (h4.jF rfl) (.cons (.sl .expr) .nil l () [v5] [] (h5.jF rfl) .nil))))
theorem Px{t:Nat}{d r:D}{off:Nat}{vs:List Value}(h:LX c t d off=some r)(J:wN Z (xy d) vs)(ZM:∀ x∈xy d,x.one=true) :
  (∃ n,DF c t=some true/\td c t=some n/\off+n<=vs.length/\RD Z r (.agg ((vs.drop off).take n).toArray)) \/
  (∃ v,DF c t=some false/\vs[off]? = some v/\RD Z r v):=by
 unfold LX at h
 split at h
 ·rename_i ha
  split at h
  ·cases h
  ·rename_i n hn
   refine .inl ⟨n,ha,hn,?_⟩
   cases I:(B off 0&&B n (xy d).length&&d.zef)with
   | true =>
    rw[I]at h
    simp at h
    subst h
    simp only[zM]at I
    obtain⟨⟨h1,M⟩,h3⟩:=I
    have e1:off=0:=zE h1
    have e2:n=(xy d).length:=zE M
    subst e1
    have R:=J.1
    rw[e2,R]
    refine⟨O,?_⟩
    simp
    cases d with
    | qi τ x =>
     have:=RD.qi τ x vs (Ku τ x J)
     simpa[pk,show τ.isAgg=true from h3]using this
    | agg l=>exact .agg l vs R ZM J.2
    | _=>cases h3
   | false =>
    rw[I]at h
    split at h
    ·rename_i l R
     cases h
     unfold BH at R
     cases hle:zJ (off+n) (xy d).length with
     | false=>grind
     | true =>
      rw[hle]at R
      cases R
      have H0:=zK hle
      refine⟨by rw[<- J.1]; exact H0,?_⟩
      have ht:=(J.drop off).take n
      exact .agg _ _ ht.1 (λx N=>ZM x (List.mem_of_mem_drop (List.mem_of_mem_take N))) ht.2
    ·cases h
 ·rename_i ha
  obtain⟨v,h1,M⟩:=J.get h
  grind
 ·cases h
theorem YK{t:Nat}{d r:D}{off blk:Nat}{vs:List Value}(base:Nat)(h:LX c t d off=some r)(J:wN Z (xy d) vs)(ZM:∀ x∈xy d,x.one=true)
  (hc:∀ j v,vs[j]? = some v->Z.w.cell? ⟨blk,base+j,none⟩=some v):∃ v,(loadVar t ⟨blk,base+off,none⟩).run c.P Z.w=.ok v Z.w/\RD Z r v:=by
 rcases Px h J ZM with⟨n,ha,hn,hle,hr⟩ | ⟨v,ha,hv,hr⟩
 ·refine⟨_,?_,hr⟩
  rw[sV (c:=c) (b:=true) (cs:=(vs.drop off).take n) ha hn (xz) nofun]
  ·simp
  ·grind
 ·refine⟨v,?_,hr⟩
  simp only[loadVar,X,We ha]
  simp[hc off v hv]
theorem XX{blk:Nat}{cs:Array Value}{t:TypeId}{fz:Nat×Nat}(h:Z.w.heap[blk]? = some (.cells cs t fz))(o:Nat):Z.w.cell? ⟨blk,o,none⟩=cs[o]? := by
 simp[World.cell?,h]
theorem Sv{t:Nat}{x:Option D}{v:Value}{d:Option D}{ql:St}(hi:Inv Z)(N:∀ y,x=some y->RD Z y v)(h:(qu (V3 c t x) Z.st).leads (d,ql)) :
  wz c.P (do zG (.value (<- zW t v))) Z d ql:=by
 unfold V3 at h
 split at h
 ·rename_i τ y
  cases ht:ca c t τ with
  | false=>rw[ht]at h; exact absurd h zh
  | true =>
   rw[ht,cond_true,dx]at h
   obtain⟨rfl,rfl⟩:=h
   cases N _ rfl with
   | vz _ _ cs blk off j3 hr hc =>
    exact wz.pure hi (by simp[zW,zQ,z1a ht hr hc]) (.qi τ y cs hr)
 ·rename_i b off
  rw[rF]at h
  obtain⟨h,rfl⟩:=h
  split at h
  ·rename_i d0 I
   cases Kf:d0.Yt with
   | true=>rw[Kf]at h; exact h.elim
   | false =>
   rw[Kf,cond_false]at h
   split at h
   ·rename_i r hr
    cases h
    cases N _ rfl with
    | ptr _ _ blk n d1 J hp =>
     obtain⟨pE,n',cs,T,g1,g2,g3,g4,g5⟩:=(hi.blk b _ I:kR Z b d0).cells Kf
     rw[hp]at g1
     cases g1
     obtain⟨v,h1,M⟩:=YK (c:=c) (blk:=blk) 0 hr g4 g5.1 (λj v hj=>by rw[XX g2]; simpa using hj)
     rw[Nat.zero_add]at h1
     exact wz.pure hi (by simp[zW,zQ,h1]) M
   ·exact h.elim
  ·exact h.elim
 ·rename_i b vi e idx off
  rw[rF]at h
  obtain⟨h,rfl⟩:=h
  split at h
  ·rename_i dF e' xs I
   cases he:decide (e'=e)with
   | false=>rw[he]at h; exact h.elim
   | true =>
    rw[he,cond_true]at h
    have IV:e'=e:=uA he
    subst IV
    obtain⟨⟨rfl,wM⟩,h⟩:=h
    split at h
    ·rename_i r hr
     cases h
     cases N _ rfl with
     | gJ _ _ _ _ _ blk o hold hp =>
      obtain⟨n,p1,rfl⟩:=hp xs I wM
      obtain⟨bM,⟨Ym,_⟩ | ⟨pE,n',cs,T,g1,g2,g3,g4,gr,f,g5⟩⟩:=hi.blk b _ I
      ·grind
      ·rw[p1]at g1
       cases g1
       have hg:xs.getD idx (zb e')=xs[idx]:=by simp[zR,zP wM]
       rw[hg]at hr
       obtain⟨k1,k2⟩:=g5 idx wM
       obtain⟨v,h1,M⟩:=YK (c:=c) (blk:=blk) (idx*e'.size) hr (QZ k1) (ri _ _) (λj v hj=>by rw[XX g2]; exact k2 j v hj)
       exact wz.pure hi (by simp[zW,zQ,h1]) M
    ·exact h.elim
  ·exact h.elim
 ·exact absurd h zh
end
end Go.AM
namespace Go.AM
set_option linter.unusedSectionVars false
variable [yY]
section
variable {c:Ctx} {Z:KS}
theorem Cj{s f o n:Nat}(h:Ks c s f=some (o,n)):∃ fs fd,c.P.underlying s=some (.struct fs)/\fs[f]? = some fd/\td c fd.type=some n/\n≠0/\fd.offset=o:=by
 unfold Ks at h
 split at h
 ·rename_i fs hu
  split at h
  ·rename_i fd hf
   split at h
   ·rename_i m hm
    cases I:B m 0 with
    | true=>grind
    | false =>
     rw[I]at h
     cases h
     refine⟨fs,fd,hu,hf,hm,?_,rfl⟩
     intro e
     subst e
     cases I
   ·cases h
  ·cases h
 ·cases h
theorem Xq{s f o n blk p:Nat}(h:Ks c s f=some (o,n))(w:World) :
  (qB s (.pointer (some ⟨blk,p,none⟩)) f).run c.P w=.ok (.pointer (some ⟨blk,p+o,none⟩)) w:=by
 obtain⟨fs,fd,h1,M,h3,h4,h5⟩:=Cj h
 simp[qB,run_underlying h1,M,zQ,fieldPlace,run_sizeOf h3,h4,addr_add]
theorem Yh:∀ (τ:Ty) (x:den τ) (n:Nat) {d:D} {o s:Nat} {cs:List Value},X0 τ x n=some (d,o,s)->Rc Z.w Z.ok τ x cs ->
  ∃ (σ:Ty) (y:den σ) (c2:List Value),d=.vz σ y/\Rc Z.w Z.ok σ y c2/\s=σ.size/\∀ j v,c2[j]? = some v->cs[o+j]? = some v
 | .cons a b,x,0,d,o,s,cs,h,hr=>by
  simp only[X0]at h
  cases h
  obtain⟨c1,c2,rfl,h1,M⟩:=hr.cons_inv
  grind
 | .cons a b,x,n+1,d,o,s,cs,h,hr=>by
  simp only[X0]at h
  split at h
  ·rename_i d' o' s' h'
   cases h
   obtain⟨c1,c2,rfl,h1,M⟩:=hr.cons_inv
   obtain⟨σ,y,c3,e1,e2,e3,e4⟩:=Yh b x.2 n h' M
   refine⟨σ,y,c3,e1,e2,e3,λj v hj => ?_⟩
   have:=h1.len
   grind
  ·cases h
 | .expr,.mk k (a,n,m,()) s l,i,d,o,z,cs,h,hr=>by
  obtain⟨c1,r1,rfl,h1,t1⟩:=hr.Eg.cons_inv
  obtain⟨c2,r2,rfl,M,t2⟩:=t1.cons_inv
  obtain⟨c3,r3,rfl,h3,t3⟩:=t2.cons_inv
  obtain⟨c4,r4,rfl,h4,t4⟩:=t3.cons_inv
  have e4:=t4.we
  subst e4
  have l2:c2.length=3:=M.len
  obtain⟨v1,rfl⟩:=h1.single rfl
  obtain⟨v3,rfl⟩:=h3.single rfl
  obtain⟨v4,rfl⟩:=h4.single rfl
  match i,h with
  | 0,h=>simp only[X0]at h; cases h; exact⟨i64,_,_,rfl,h1,rfl,λj v hj=>by match j,hj with | 0,hj=>simpa using hj⟩
  | 1,h => 
   simp only[X0]at h; cases h
   refine⟨Bu,_,_,rfl,M,rfl,λj v hj => ?_⟩
   grind
  | 2,h =>
   simp only[X0]at h; cases h
   refine⟨.str,_,_,rfl,h3,rfl,λj v hj => ?_⟩
   grind
  | 3,h =>
   simp only[X0]at h; cases h
   refine⟨.sl .expr,_,_,rfl,h4,rfl,λj v hj => ?_⟩
   match j,hj with
   | 0,hj =>
    simp only[List.cons_append,List.nil_append,Nat.add_zero,List.getElem?_cons_succ]
    rw[List.getElem?_append_right (O),l2]; simpa using hj
  | n+4,h=>simp[X0]at h
 | .int _,_,_,_,_,_,_,h,_ | .bool,_,_,_,_,_,_,h,_ | .str,_,_,_,_,_,_,h,_ | .sl _,_,_,_,_,_,_,h,_ | .nil,_,_,_,_,_,_,h,_=>by simp[X0]at h
theorem Yf{s f:Nat}{x:Option D}{v:Value}{d:Option D}{ql:St}(hi:Inv Z)(N:∀ y,x=some y->RD Z y v)(h:(qu (QY c s f x) Z.st).leads (d,ql)) :
  wz c.P (do zG (.value (<- qB s v f))) Z d ql:=by
 unfold QY at h
 split at h
 ·exact absurd h zh
 ·rename_i o n hf
  split at h
  ·rename_i τ y
   split at h
   ·rename_i d' o' n' JI
    cases I:B o o'&&B n n' with
    | false=>rw[I]at h; exact absurd h zh
    | true =>
     rw[I,cond_true,dx]at h
     obtain⟨rfl,rfl⟩:=h
     simp only[zM]at I
     have e1:o=o':=zE I.1
     subst e1
     cases N _ rfl with
     | vz _ _ cs blk off j3 hr hc =>
      obtain⟨σ,z,c2,rfl,g1,g2,g3⟩:=Yh τ y f JI hr
      exact wz.pure hi (Xq hf Z.w) (.vz σ z c2 blk (off+o) j3 g1 λj u hj=>xz)
   ·exact absurd h zh
  ·rename_i b off
   obtain⟨rfl,rfl⟩:=h
   cases N _ rfl with
   | ptr _ _ blk n d J hp=>exact wz.pure hi (Xq hf Z.w) (.ptr b (off+o) blk n d J hp)
  ·rename_i b vi e idx off
   obtain⟨rfl,rfl⟩:=h
   cases N _ rfl with
   | gJ _ _ _ _ _ blk p hold hp =>
    refine wz.pure hi (Xq hf Z.w) (.gJ b vi e idx (off+o) blk (p+o) hold λxs h1 M => ?_)
    grind
  ·exact absurd h zh
theorem IJ{s f:Nat}{x:Option D}{v:Value}{d:Option D}{ql:St}(hi:Inv Z)(N:∀ y,x=some y->RD Z y v)(h:(qu (Cl c s f x) Z.st).leads (d,ql)) :
  wz c.P (do zG (.value (<- qD s v f))) Z d ql:=by
 unfold Cl at h
 split at h
 ·rename_i fs hu
  split at h
  ·rename_i fd hf
   split at h
   ·rename_i y
    obtain⟨r,hr,rfl,rfl⟩:=YJ h
    cases hag:y.cG with
    | false=>grind
    | true =>
    rw[hag,cond_true]at hr
    have hy:=N _ rfl
    have ⟨vs,hv,hvs⟩:∃ vs,v=.agg vs/\wN Z (xy y) vs.toList:=by
     have hfd:=cz hy (by cases y<;>simp[D.cG,D.bB]at hag ⊢)
     cases hy<;>simp[D.cG]at hag
     ·rename_i τ z cs hc
      exact⟨cs.toArray,by simp[pk,hag],by simpa[pk,hag,qA]using hfd⟩
     ·rename_i l vs R ho hh
      exact⟨vs.toArray,rfl,by simpa[qA]using hfd⟩
    subst hv
    rcases Px hr hvs (cy hy)with⟨n,ha,hn,hle,hrd⟩ | ⟨u,ha,RW,hrd⟩
    ·refine wz.pure hi ?_ hrd
     simp only[qD,X,run_underlying hu,E,hf,asAgg,zN,part,We ha,if_true,run_sizeOf hn]
     congr 2
     grind
    ·refine wz.pure hi ?_ hrd
     have:vs[fd.offset]? = some u:=by simpa using RW
     simp[qD,run_underlying hu,hf,asAgg,part,We ha,this]
   ·exact absurd h zh
  ·exact absurd h zh
 ·exact absurd h zh
theorem yJ{t e:Nat}(h:mU c t=some e):c.P.underlying t=some (.slice e):=by
 unfold mU at h
 grind
theorem kt{x:Option D}{k:IntKind}{n:Int}{v:Value}(h:asInt x=some (k,n))(N:∀ y,x=some y->RD Z y v):v=.int k n:=by
 unfold asInt at h
 split at h
 ·cases h; exact(N _ rfl).dO
 ·cases h
theorem QF{x:Option D}{s:zx}{v:Value}(h:KZ x=some s)(N:∀ y,x=some y->RD Z y v):v=.string ⟨s.toArray⟩:=by
 unfold KZ at h
 split at h
 ·cases h; exact(N _ rfl).jc
 ·cases h
theorem tJ{x:Option D}{b:Bool}{v:Value}(h:asBool x=some b)(N:∀ y,x=some y->RD Z y v):v=.bool b:=by
 unfold asBool at h
 split at h
 ·cases h; exact(N _ rfl).cr
 ·cases h
theorem getD_lt{α:Type}{l:List α}{i:Nat}(h:i<l.length)(d:α):zR l i d=l[i]:=xz
theorem QI{a:Ty}(x:den a):(jP x:Option (den a))=some x:=by simp[jP]
theorem DN{w:World}{ok:Nat->Prop}:∀ (τ:Ty) (e:Ty) (n:Nat) (x:den τ) (cs:List Value) (i:Nat),DO τ=some (e,n)->Rc w ok τ x cs->i<n ->
  ∃ c,Rc w ok e (Wv e τ x i) c/\∀ j v,c[j]? = some v->cs[i*e.size+j]? = some v
 | .cons a b,e,n,x,cs,i,ht,hr,hi=>by
  obtain⟨c1,c2,rfl,h1,M⟩:=hr.cons_inv
  have key:∀ m,(b=.nil/\m=0\/DO b=some (a,m))->i<m+1->∃ c,Rc w ok a (Wv a (.cons a b) x i) c/\∀ j v,c[j]? = some v->(c1++c2)[i*a.size+j]? = some v:=by
   intro m hm hi
   cases i with
   | zero =>
    refine⟨c1,by simp only[Wv,QI]; exact h1,λj v hj => ?_⟩
    grind
   | succ i =>
    rcases hm with⟨rfl,rfl⟩ | hm
    ·omega
    ·obtain⟨c,g1,g2⟩:=DN b a m x.2 c2 i hm M (O)
     refine⟨c,g1,λj v hj => ?_⟩
     have R:=h1.len
     grind
  unfold DO at ht
  split at ht
  ·cases ht; exact key 0 (.inl ⟨rfl,rfl⟩) (O)
  ·grind
 | .int _,_,_,_,_,_,ht,_,_=>by cases ht
 | .bool,_,_,_,_,_,ht,_,_=>by cases ht
 | .str,_,_,_,_,_,ht,_,_=>by cases ht
 | .sl _,_,_,_,_,_,ht,_,_=>by cases ht
 | .nil,_,_,_,_,_,ht,_,_=>by cases ht
 | .expr,_,_,_,_,_,ht,_,_=>by cases ht
theorem Rm{t n e:Nat}(h:zaW c t=some (n,e)):c.P.underlying t=some (.array n e):=by
 unfold zaW at h
 grind
theorem H7{t:Nat}{x i:Option D}{k:IntKind}{n:Int}{v u:Value}{d:Option D}{ql:St}(hi:Inv Z)(N:∀ y,x=some y->RD Z y v)(hy:∀ y,i=some y->RD Z y u)(Ja:asInt i=some (k,n))
  (h:(qu (Yr c t x n) Z.st).leads (d,ql)):wz c.P (do zG (.value (<- zO t v u))) Z d ql:=by
 have RW:=kt Ja hy
 subst RW
 unfold Yr at h
 split at h
 ·rename_i m et τ y ha
  have hu:=Rm ha
  split at h
  ·rename_i e m' MT
   cases ht:ca c et e&&B m m' with
   | false=>rw[ht]at h; exact absurd h zh
   | true =>
    rw[ht,cond_true,yy]at h
    simp only[zM]at ht
    have:=zE ht.2
    subst this
    obtain⟨⟨h0,h1⟩,rfl,rfl⟩:=h
    obtain⟨hs,_⟩:=jY ht.1
    cases N _ rfl with
    | vz _ _ cs blk off j3 Dz hc =>
     obtain⟨cc,g1,g2⟩:=DN τ e m y cs n.toNat MT Dz (O)
     refine wz.pure hi ?_ (.vz e _ cc blk (off+n.toNat*e.size) j3 g1 λj v hj=>xz)
     simp[zO,asIntOf,run_underlying hu,h0,h1,run_sizeOf hs,addr_add,zQ]
  ·exact absurd h zh
 ·exact absurd h zh
theorem Yq{t:Nat}{x i:Option D}{v u:Value}{d:Option D}{ql:St}(hi:Inv Z)(N:∀ y,x=some y->RD Z y v)(hy:∀ y,i=some y->RD Z y u)
  (h:(qu (X2 c t x i) Z.st).leads (d,ql)):wz c.P (do zG (.value (<- zO t v u))) Z d ql:=by
 unfold X2 at h
 split at h
 ·rename_i k n het Ja
  exact H7 hi N hy Ja h
 ·rename_i et k n het Ja
  have hu:=yJ het
  have RW:=kt Ja hy
  subst RW
  split at h
  ·rename_i e l
   cases ht:ca c et e with
   | false=>rw[ht]at h; exact absurd h zh
   | true =>
    rw[ht,cond_true,yy]at h
    obtain⟨⟨h0,h1⟩,rfl,rfl⟩:=h
    obtain⟨hs,_⟩:=jY ht
    have wM:n.toNat<V l:=O
    rcases((N _ rfl).jF rfl).tA with⟨rfl,_⟩ | ⟨blk,off,cap,f,he,j3,jg,hh,hc⟩
    ·cases wM
    ·cases he
     rw[getD_lt wM]
     refine wz.pure hi ?_ (.vz e _ (f n.toNat) blk (off+n.toNat*e.size) j3 (hh _ wM) λj v hj=>hc _ wM j v hj)
     simp[zO,asIntOf,run_underlying hu,h0,h1,run_sizeOf hs,addr_add]
  ·rename_i e l ne
   cases ht:ca c et e with
   | false=>rw[ht]at h; exact absurd h zh
   | true =>
    rw[ht,cond_true,yy]at h
    obtain⟨⟨h0,h1⟩,rfl,rfl⟩:=h
    obtain⟨hs,_⟩:=jY ht
    have wM:n.toNat<V l:=O
    cases N _ rfl with
    | vy=>cases wM
    | tight _ _ _ blk off f jZ j3 hh hc =>
     rw[getD_lt wM]
     refine wz.pure hi ?_ (.vz e _ (f n.toNat) blk (off+n.toNat*e.size) j3 (hh _ wM) λj v hj=>hc _ wM j v hj)
     simp[zO,asIntOf,run_underlying hu,h0,h1,run_sizeOf hs,addr_add]
  ·rename_i b vi e off len
   cases ht:ca c et e with
   | false=>rw[ht]at h; exact absurd h zh
   | true =>
    rw[ht,cond_true,yy]at h
    obtain⟨⟨h0,h1⟩,rfl,rfl⟩:=h
    obtain⟨hs,_⟩:=jY ht
    cases N _ rfl with
    | ms _ _ _ _ _ cap a hold jg ha Ws hm =>
     cases a with
     | none=>grind
     | some p =>
      have hp:=Ws p rfl
      obtain⟨blk,o,sp⟩:=p
      subst hp
      refine wz.pure hi (v:=.pointer (some ⟨blk,o+n.toNat*e.size,none⟩)) ?_ (.gJ b vi e (off+n.toNat) 0 blk _ hold λxs I wM => ?_)
      ·simp[zO,asIntOf,run_underlying hu,h0,h1,run_sizeOf hs,addr_add]
      ·obtain⟨hle,⟨_,_,hv,_⟩ | ⟨pE,n',o',VH,h3,h4,h5,h6,h7⟩⟩:=hm xs I
       ·cases hv
       ·grind
  ·exact absurd h zh
 ·exact absurd h zh
theorem Rp(s:zx){i:Nat}(h:i<s.length):(⟨s.toArray⟩:ByteArray)[i]? = some s[i]:=by
 have bM:(⟨s.toArray⟩:ByteArray).size=s.length:=rfl
 rw[getElem?_pos _ _ (xz)]
 rfl
theorem L7{t:Nat}{x i:Option D}{v u:Value}{d:Option D}{ql:St}(hi:Inv Z)(N:∀ y,x=some y->RD Z y v)(hy:∀ y,i=some y->RD Z y u)
  (h:(qu (Cz c t x i) Z.st).leads (d,ql)):wz c.P (do zG (.value (<- Instr.index t v u))) Z d ql:=by
 unfold Cz at h
 split at h
 ·rename_i k n s Ja hs hu
  have RW:=kt Ja hy
  subst RW
  have hv:=QF hs N
  subst hv
  obtain⟨⟨h0,h1⟩,rfl,rfl⟩:=h
  have wM:n.toNat<s.length:=O
  rw[getD_lt wM]
  exact wz.pure hi (by simp[Instr.index,asIntOf,run_underlying hu,h0,Rp s wM]) RD.int
 ·exact absurd h zh
def Jv(Z:KS):Option (Option D)->Option Value->Prop
 | none,none=>True
 | some x,some v=>∀ y,x=some y->RD Z y v
 | _,_=>False
theorem Y5{d n:Int}{x:Option (Option D)}{v:Option Value}(h:Rn d x=some n)(N:Jv Z x v):(x=none/\v=none/\n=d)\/(x.isSome/\∃ k,v=some (.int k n)):=by
 cases x with
 | none=>cases v with
  | none=>exact .inl ⟨rfl,rfl,by simpa[Rn]using h.symm⟩
  | some v=>exact N.elim
 | some x=>cases v with
  | none=>exact N.elim
  | some v =>
   simp only[Rn]at h
   split at h
   ·rename_i k i hk; cases h; exact .inr ⟨rfl,k,by rw[kt hk N]⟩
   ·cases h
end
end Go.AM
namespace Go.AM
set_option linter.unusedSectionVars false
variable [yY]
section
variable {c:Ctx} {Z:KS}
theorem dB{P:Program}{isS:Bool}{len cap:Nat}{lo hi mx:Option Value}{l h:Int}{m:Nat}
  (R:(lo=none/\l=0)\/∃ k,lo=some (.int k l)) (hh:(hi=none/\mx=none/\h=len)\/∃ k,hi=some (.int k h))
  (hm:(mx=none/\m=cap)\/∃ k,mx=some (.int k m)) (h0:0<=l) (h1:l<=h) (M:h<=m) (h3:m<=cap) (w:World) :
  (zU isS len cap lo hi mx).run P w=.ok (l.toNat,h.toNat,m) w:=by
 have hh0:(0:Int)<=h:=O
 have GJ:l<=(h.toNat:Int):=O
 rcases R with⟨rfl,rfl⟩ | ⟨k1,rfl⟩<;>rcases hm with⟨rfl,rfl⟩ | ⟨k3,rfl⟩<;>rcases hh with⟨rfl,N,rfl⟩ | ⟨k2,rfl⟩ <;>
  first
   | (cases N; done)
   | (simp[zU,run_sliceBound, *]; done)
   | (simp[zU,run_sliceBound, *]; rw[run_sliceBound _ _ _ _ _ h0 GJ]; rfl)
theorem FA(s:zx)(l h:Int):(⟨s.toArray⟩:ByteArray).extract l.toNat h.toNat=⟨(fN l h s).toArray⟩:=by
 apply ByteArray.ext
 simp[fN,List.drop_take]
theorem Y4{n:Int}{x:Option (Option D)}{v:Option Value}(h:Rn 0 x=some n)(N:Jv Z x v):(v=none/\n=0)\/∃ k,v=some (.int k n):=by
 rcases Y5 h N with⟨_,h1,M⟩ | ⟨_,h1⟩
 ·grind
 ·grind
theorem C1{d n:Int}{x:Option (Option D)}{v:Option Value}(h:Rn d x=some n)(N:Jv Z x v):(v=none/\n=d)\/∃ k,v=some (.int k n):=by
 rcases Y5 h N with⟨_,h1,M⟩ | ⟨_,h1⟩
 ·grind
 ·grind
theorem Uv{v:Option Value}(h:Jv Z none v):v=none:=by cases v with | none=>rfl | some _=>exact h.elim
theorem XI{e:Ty}{l:List (den e)}{lo hi:Int}(h0:0<=lo)(h1:lo<=hi)(M:hi<=(l.length:Int)) :
  (jI lo hi l).length=hi.toNat-lo.toNat/\∀ i (Ky:i<(jI lo hi l).length),∃ h:lo.toNat+i<l.length,(jI lo hi l)[i]=l[lo.toNat+i]:=by
 have hlen:(jI lo hi l).length=hi.toNat-lo.toNat:=by simp[jI]; omega
 refine⟨hlen,λi Ky=>⟨O,?_⟩⟩
 simp[jI]
theorem LL{e:Ty}{l:List (den e)}{lo hi:Int}{blk off cap m:Nat}{f:Nat->List Value}(j3:Z.ok blk)
  (hh:∀ i (hi:i<l.length),Rc Z.w Z.ok e l[i] (f i)) (hc:∀ i,i<l.length->∀ j v,(f i)[j]? = some v->Z.w.cell? ⟨blk,off+i*e.size+j,none⟩=some v)
  (h0:0<=lo) (h1:lo<=hi) (M:hi<=(l.length:Int)) (hm:hi<=(m:Int)) (jg:m<=cap) :
  (∀ i (Ky:i<(jI lo hi l).length),Rc Z.w Z.ok e (jI lo hi l)[i] (f (lo.toNat+i))) /\
  (∀ i,i<(jI lo hi l).length->∀ j v,(f (lo.toNat+i))[j]? = some v ->
   Z.w.cell? ⟨blk,(if m=lo.toNat then off else off+lo.toNat*e.size)+i*e.size+j,none⟩=some v)/\(jI lo hi l).length<=m-lo.toNat:=by
 obtain⟨R,hg⟩:=XI h0 h1 M
 refine⟨λi Ky => ?_,λi Ky j v hj => ?_,O⟩
 ·obtain⟨h3,h4⟩:=hg i Ky
  rw[h4]; exact hh _ h3
 ·obtain⟨h3,h4⟩:=hg i Ky
  have:=hc _ h3 j v hj
  rw[if_neg (O)]
  rw[Nat.add_mul,<- Nat.add_assoc]at this
  exact this
theorem LM{t:Nat}{x:Option D}{lo hi mx:Option (Option D)}{v:Value}{vl vh vm:Option Value}{d:Option D}{ql:St}(hI:Inv Z)(N:∀ y,x=some y->RD Z y v)
  (hlo:Jv Z lo vl) (hhi:Jv Z hi vh) (hmx:Jv Z mx vm)
  (h:(qu (D7 c t x lo hi mx) Z.st).leads (d,ql)):wz c.P (do zG (.value (<- zH t v vl vh vm))) Z d ql:=by
 unfold D7 at h
 split at h
 ·rename_i s
  obtain⟨s,rfl⟩:∃ s':zx,s=s':=⟨s,rfl⟩
  split at h
  ·rename_i l hh hu R hh'
   rw[yy]at h
   obtain⟨⟨h0,h1,M⟩,rfl,rfl⟩:=h
   have hv:=(N _ rfl).jc
   subst hv
   have e1:=Uv hmx
   subst e1
   refine wz.pure hI ?_ RD.str
   have bM:(⟨s.toArray⟩:ByteArray).size=s.length:=rfl
   have I:=dB (P:=c.P) (isS:=false) (len:=s.length) (cap:=s.length) (mx:=none) (m:=s.length) (Y4 R hlo)
    (rN (C1 hh' hhi) (λh=>⟨h.1,rfl,h.2⟩) id) (.inl ⟨rfl,rfl⟩) h0 h1 M (zF _) Z.w
   simp only[zH,X,run_underlying hu,E,zL,Option.isSome_none,Bool.false_eq_true,if_false,bM,I,FA]
   rfl
  ·exact absurd h zh
 ·rename_i e s
  split at h
  ·rename_i et l hh het R hh'
   have hu:=yJ het
   cases ht:ca c et e with
   | false=>rw[ht]at h; exact absurd h zh
   | true =>
    obtain⟨hs,_⟩:=jY ht
    rw[ht,cond_true]at h
    split at h
    ·rw[yy]at h
     obtain⟨⟨h0,h1,M⟩,rfl,rfl⟩:=h
     have e1:=Uv hmx
     subst e1
     have H2:=Y4 R hlo
     have GZ:(vh=none/\(none:Option Value)=none/\hh=(s.length:Int))\/∃ k,vh=some (.int k hh):=rN (C1 hh' hhi) (λh=>⟨h.1,rfl,h.2⟩) id
     rcases((N _ rfl).jF rfl).tA with⟨rfl,a0,he⟩ | ⟨blk,off,cap,f,he,j3,jg,RN,hc2⟩
     ·cases he
      simp only[zY,zT]at M
      have I:=dB (P:=c.P) (isS:=true) (len:=0) (cap:=0) (mx:=none) (m:=0) H2 GZ (.inl ⟨rfl,rfl⟩) h0 h1 M (zF _) Z.w
      have e0:l=0:=O
      have e2:hh=0:=O
      subst e0 e2
      refine wz.pure hI (v:=.slice a0 0 0) ?_ (.tY rfl (.lA e a0))
      simp[zH,run_underlying hu,zL,I,run_sizeOf hs]
     ·cases he
      obtain⟨k1,k2,k3⟩:=LL (lo:=l) (hi:=hh) (cap:=cap) (m:=cap) j3 RN hc2 h0 h1 M (O) (zF _)
      have I:=dB (P:=c.P) (isS:=true) (len:=s.length) (cap:=cap) (mx:=none) (m:=cap) H2 GZ (.inl ⟨rfl,rfl⟩) h0 h1 (O) (zF _) Z.w
      have hlen:=(XI h0 h1 M).1
      refine wz.pure hI ?_ (.tY rfl (.sl e (jI l hh s) blk _ (cap-l.toNat) _ j3 k3 k1 k2))
      simp only[zH,X,run_underlying hu,E,zL,I,run_sizeOf hs,zN,hlen]
      congr 3
      split<;>simp[addr_add]
    ·split at h
     ·rename_i mx m km mi hm'
      cases hhs:hi.isSome with
      | false=>rw[hhs]at h; exact absurd h zh
      | true =>
      rw[hhs,cond_true,yy]at h
      obtain⟨⟨h0,h1,rfl,M⟩,rfl,rfl⟩:=h
      obtain⟨vm,rfl⟩:∃ u,vm=some u:=by cases vm with | none=>exact hmx.elim | some u=>exact⟨u,rfl⟩
      have hvm:=kt hm' hmx
      subst hvm
      have H2:=Y4 R hlo
      have GZ:(vh=none/\(some (Value.int km hh):Option Value)=none/\hh=(s.length:Int))\/∃ k,vh=some (.int k hh):=by
       rcases Y5 hh' hhi with⟨g1,_⟩ | ⟨_,g⟩
       ·rw[g1]at hhs; cases hhs
       ·exact .inr g
      have em:((hh.toNat:Nat):Int)=hh:=O
      rcases((N _ rfl).jF rfl).tA with⟨rfl,a0,he⟩ | ⟨blk,off,cap,f,he,j3,jg,RN,hc2⟩
      ·cases he
       simp only[zY,zT]at M
       have I:=dB (P:=c.P) (isS:=true) (len:=0) (cap:=0) (mx:=some (.int km hh)) (m:=hh.toNat) H2 GZ (.inr ⟨km,by rw[em]⟩) h0 h1 (O) (O) Z.w
       have e0:l=0:=O
       have e2:hh=0:=O
       subst e0 e2
       refine wz.pure hI (v:=.slice a0 0 0) ?_ (.vy e a0)
       simp[zH,run_underlying hu,zL,I,run_sizeOf hs]
      ·cases he
       obtain⟨k1,k2,k3⟩:=LL (lo:=l) (hi:=hh) (cap:=cap) (m:=hh.toNat) j3 RN hc2 h0 h1 M (O) (O)
       have I:=dB (P:=c.P) (isS:=true) (len:=s.length) (cap:=cap) (mx:=some (.int km hh)) (m:=hh.toNat) H2 GZ (.inr ⟨km,by rw[em]⟩) h0 h1 (O) (O) Z.w
       have hlen:=(XI h0 h1 M).1
       refine wz.pure hI ?_ (.tight e (jI l hh s) false blk _ _ nofun j3 k1 k2)
       simp only[zH,X,run_underlying hu,E,zL,I,run_sizeOf hs,zN,hlen]
       congr 3
       split<;>simp[addr_add]
     ·exact absurd h zh
  ·exact absurd h zh
 ·rename_i e s ne
  split at h
  ·rename_i et l hh het R hh'
   have hu:=yJ het
   cases ht:ca c et e with
   | false=>rw[ht]at h; exact absurd h zh
   | true =>
    obtain⟨hs,_⟩:=jY ht
    rw[ht,cond_true,yy]at h
    obtain⟨⟨h0,h1,M⟩,rfl,rfl⟩:=h
    have e1:=Uv hmx
    subst e1
    have H2:=Y4 R hlo
    have GZ:(vh=none/\(none:Option Value)=none/\hh=(s.length:Int))\/∃ k,vh=some (.int k hh):=rN (C1 hh' hhi) (λh=>⟨h.1,rfl,h.2⟩) id
    cases N _ rfl with
    | vy _ a0 =>
     simp only[zY,zT]at M
     have I:=dB (P:=c.P) (isS:=true) (len:=0) (cap:=0) (mx:=none) (m:=0) H2 GZ (.inl ⟨rfl,rfl⟩) h0 h1 M (zF _) Z.w
     have e0:l=0:=O
     have e2:hh=0:=O
     subst e0 e2
     refine wz.pure hI (v:=.slice a0 0 0) ?_ (.tY rfl (.lA e a0))
     simp[zH,run_underlying hu,zL,I,run_sizeOf hs]
    | tight _ _ _ blk off f jZ j3 RN hc2 =>
     obtain⟨k1,k2,k3⟩:=LL (lo:=l) (hi:=hh) (cap:=s.length) (m:=s.length) j3 RN hc2 h0 h1 M (O) (zF _)
     have I:=dB (P:=c.P) (isS:=true) (len:=s.length) (cap:=s.length) (mx:=none) (m:=s.length) H2 GZ (.inl ⟨rfl,rfl⟩) h0 h1 (O) (zF _) Z.w
     have hlen:=(XI h0 h1 M).1
     refine wz.pure hI ?_ (.tY rfl (.sl e (jI l hh s) blk _ (s.length-l.toNat) _ j3 k3 k1 k2))
     simp only[zH,X,run_underlying hu,E,zL,I,run_sizeOf hs,zN,hlen]
     congr 3
     split<;>simp[addr_add]
  ·exact absurd h zh
 ·rename_i b vi e off len
  split at h
  ·rename_i et l hh het R hh'
   have hu:=yJ het
   cases ht:ca c et e with
   | false=>rw[ht]at h; exact absurd h zh
   | true =>
    obtain⟨hs,_⟩:=jY ht
    rw[ht,cond_true,yy]at h
    obtain⟨⟨h0,h1,M⟩,rfl,rfl⟩:=h
    have e1:=Uv hmx
    subst e1
    have H2:=Y4 R hlo
    have GZ:(vh=none/\(none:Option Value)=none/\hh=(len:Int))\/∃ k,vh=some (.int k hh):=rN (C1 hh' hhi) (λh=>⟨h.1,rfl,h.2⟩) id
    cases N _ rfl with
    | ms _ _ _ _ _ cap a hold jg ha Ws hm =>
     have I:=dB (P:=c.P) (isS:=true) (len:=len) (cap:=cap) (mx:=none) (m:=cap) H2 GZ (.inl ⟨rfl,rfl⟩) h0 h1 (O) (zF _) Z.w
     refine wz.pure hI (v:=.slice (if cap=l.toNat then a else a.map (·.add (l.toNat*e.size))) (hh.toNat-l.toNat) (cap-l.toNat)) ?_ (.ms b vi e _ _ _ _ hold (O) ?_ ?_ ?_)
     ·simp only[zH,X,run_underlying hu,E,zL,I,run_sizeOf hs,zN]
     ·intro hn
      split at hn
      ·have:=ha hn; omega
      ·cases a with | none=>have:=ha rfl; omega | some p=>cases hn
     ·intro p hp
      split at hp
      ·exact Ws p hp
      ·cases a with
       | none=>cases hp
       | some q =>
        obtain⟨q1,q2,q3⟩:=q
        have:=Ws _ rfl
        simp only at this
        subst this
        simp only[Option.map_some,addr_add,Option.some.injEq]at hp
        subst hp; rfl
     ·intro xs Yo
      obtain⟨hle,⟨rfl,rfl,hv,hp⟩ | ⟨pE,n',o',VH,h3,h4,h5,h6,h7⟩⟩:=hm xs Yo
      ·cases hv
       have e0:l=0:=O
       have e2:hh=0:=O
       subst e0 e2
       exact⟨qz,.inl ⟨rfl,rfl,rfl,hp⟩⟩
      ·cases h4
       refine⟨O,.inr ?_⟩
       by_cases Kx:cap=l.toNat
       ·refine⟨pE,n',o',0,h3,?_,O,?_,.inl rfl⟩
        ·simp[Kx]
        ·have:(off+l.toNat+0)=off+cap:=O
         rw[this]; exact h6
       ·refine⟨pE,n',o'+l.toNat*e.size,cap-l.toNat,h3,?_,O,?_,.inr ?_⟩
        ·simp[Kx,addr_add]
        ·have:off+l.toNat+(cap-l.toNat)=off+cap:=O
         rw[this]; exact h6
        ·rcases h7 with h7 | h7
         ·omega
         ·rw[h7,Nat.add_mul]
  ·exact absurd h zh
 ·exact absurd h zh
end
end Go.AM
namespace Go.AM
set_option linter.unusedSectionVars false
variable [yY]
section
variable {c:Ctx} {Z:KS}
theorem QW(op:BinOp)(t:Nat)(x y:Operand)(k k':IntKind)(a b:Int)(P:Program)(w:World):(eqGuard op t x y (.int k a) (.int k' b)).run P w=.ok () w:=by
 unfold eqGuard; split<;>simp
theorem Ed(op:BinOp)(t:Nat)(x y:Operand)(a b:ByteArray)(P:Program)(w:World):(eqGuard op t x y (.string a) (.string b)).run P w=.ok () w:=by
 unfold eqGuard; split<;>simp
theorem Cf(op:BinOp)(t:Nat)(x y:Operand)(a b:Bool)(P:Program)(w:World):(eqGuard op t x y (.bool a) (.bool b)).run P w=.ok () w:=by
 unfold eqGuard; split<;>simp
theorem Z0{k:IntKind}{n:Int}{st ql:St}{d:Option D}:(qu (ib k n) st).leads (d,ql)↔d=some (.qi (.int k) n)/\ql=st:=dx
theorem Xa{b:Bool}{st ql:St}{d:Option D}:(qu (bb b) st).leads (d,ql)↔d=some (.qi .bool b)/\ql=st:=dx
theorem Im{op:BinOp}{k:IntKind}{a b:Int}{d:Option D}{st ql:St}{t:Nat}(h:(qu (Il op k a b) st).leads (d,ql))(hs:KB op=false) :
  ∃ y v,d=some y/\ql=st/\(binOp op t (.int k a) (.int k b)).run c.P Z.w=.ok v Z.w/\RD Z y v:=by
 cases op<;>simp only[Il]at h<;>try (exact absurd h zh)
 all_goals first
  | (rw[Z0]at h; obtain⟨rfl,rfl⟩:=h; exact⟨_,_,rfl,rfl,by simp[binOp,Op.intArith,Op.intBits,QG],RD.int⟩)
  | (rw[Xa]at h; obtain⟨rfl,rfl⟩:=h; exact⟨_,_,rfl,rfl,by simp[binOp,Op.intCmp],RD.bool⟩)
  | (rw[yy]at h; obtain⟨I,rfl,rfl⟩:=h; exact⟨_,_,rfl,rfl,by simp[binOp,Op.intDiv,I],RD.int⟩)
theorem Gp(s:zx):(⟨s.toArray⟩:ByteArray).toList=s:=qz
theorem Iq{op:BinOp}{a b:zx}{d:Option D}{st ql:St}{t:Nat}(h:(qu (Ip op a b) st).leads (d,ql))(hs:KB op=false) :
  ∃ y v,d=some y/\ql=st/\(binOp op t (.string ⟨a.toArray⟩) (.string ⟨b.toArray⟩)).run c.P Z.w=.ok v Z.w/\RD Z y v:=by
 have bM:∀ s:zx,(⟨s.toArray⟩:ByteArray).size=s.length:=λ_=>rfl
 cases op<;>simp only[Ip]at h<;>try (exact absurd h zh)
 case add =>
  rw[yy]at h; obtain⟨I,rfl,rfl⟩:=h
  refine⟨_,_,rfl,rfl,?_,RD.str⟩
  have e:(⟨a.toArray⟩++⟨b.toArray⟩:ByteArray)=⟨(cat a b).toArray⟩:=by
   rfl
  have hn:¬ (IntKind.i64.max<((a.length+b.length:Nat):Int)):=by
   have:IntKind.i64.max=9223372036854775807:=xn
   omega
  simp only[binOp,Op.stringOp,bM,hn]
  rfl
 all_goals (rw[Xa]at h; obtain⟨rfl,rfl⟩:=h; exact⟨_,_,rfl,rfl,by simp[binOp,Op.stringOp,wG,strLt],RD.bool⟩)
theorem IG{P:Program}{t:Nat}(hu:P.underlying t=some .bool)(a b:Bool)(w:World):(Op.equal t (.bool a) (.bool b)).run P w=.ok (a==b) w:=by
 show(qC (9999+1) t _ _).run P w=_
 rw[qC]
 simp[run_underlying hu]
theorem LJ{a:Ty}{t:Nat}(h:z8S c a t=true):(∃ k,a=.int k/\c.P.underlying t=some (.int k))\/(a=.bool/\c.P.underlying t=some .bool)\/(a=.str/\c.P.underlying t=some .string):=by
 unfold z8S at h
 grind
theorem Lm{P:Program}{t:Nat}{u:TypeDesc}(h:P.underlying t=some u)(hn:(match u with | .struct _ | .array _ _=>true | _=>false)=false)(w:World):(isAgg t).run P w=.ok false w:=by
 simp only[isAgg,X,run_underlying h]
 cases u<;>first | rfl | cases hn
theorem mh{P:Program}{t:Nat}{u:TypeDesc}(h:P.underlying t=some u)(hn:(match u with | .struct _ | .array _ _=>true | _=>false)=false)(pre:List Value)(v:Value)(cs:List Value)(w:World) :
  (part t (pre++v::cs).toArray pre.length).run P w=.ok v w:=by
 simp only[part,X,Lm h hn]
 simp
theorem VW{w:World}{ok:Nat->Prop}(dp:Nat):∀ (τ:Ty) (a b:den τ) (off:Nat) (fs:List Field) (pre Ga cs my:List Value),VZ c τ off fs=true->Rc w ok τ a cs->Rc w ok τ b my->pre.length=off->Ga.length=off ->
  (zZ (dp+1) (pre++cs).toArray (Ga++my).toArray fs).run c.P w=.ok (eqT τ a b) w
 | .nil,_,_,_,fs,pre,Ga,cs,my,h,_,_,_,_=>by
  cases fs with
  | nil=>rfl
  | cons f fs=>cases h
 | .cons a r,x,y,off,fs,pre,Ga,cs,my,h,N,hy,hp,hp'=>by
  cases fs with
  | nil=>cases h
  | cons f fs =>
   have h:(decide (f.name ≠ "_")&&(B f.offset off&&(z8S c a f.type&&VZ c r (off+1) fs)))=true:=h
   simp only[zM,decide_eq_true_eq]at h
   obtain⟨h1,M,h3,h4⟩:=h
   have M:=zE M
   obtain⟨c1,c2,rfl,g1,g2⟩:=N.cons_inv
   obtain⟨e1,e2,rfl,k1,k2⟩:=hy.cons_inv
   have ih:=λv v'=>VW dp r x.2 y.2 (off+1) fs (pre++[v]) (Ga++[v']) c2 e2 h4 g2 k2 (by simp[hp]) (by simp[hp'])
   have fin:∀ (v v':Value) (q:Bool),c1=[v]->e1=[v']->(part f.type (pre++v::c2).toArray f.offset).run c.P w=.ok v w->(part f.type (Ga++v'::e2).toArray f.offset).run c.P w=.ok v' w->(qC (dp+1) f.type v v').run c.P w=.ok q w->eqT a x.1 y.1=q ->
     (zZ (dp+1) (pre++(c1++c2)).toArray (Ga++(e1++e2)).toArray (f::fs)).run c.P w=.ok (eqT (.cons a r) x y) w:=by
    rintro v v' q rfl rfl p1 p2 p3 p4
    show(zZ (dp+1) (pre++v::c2).toArray (Ga++v'::e2).toArray (f::fs)).run c.P w=.ok (eqT a x.1 y.1&&eqT r x.2 y.2) w
    rw[zZ,if_pos h1]
    simp only[X,p1,p2,p3,E]
    rw[p4]
    cases q with
    | false=>rfl
    | true =>
     grind
   subst hp
   rcases LJ h3 with⟨k,rfl,hu⟩ | ⟨rfl,hu⟩ | ⟨rfl,hu⟩
   ·exact fin _ _ _ g1.dO k1.dO (by rw[M]; exact mh hu rfl pre _ c2 w) (by rw[M,<- hp']; exact mh hu rfl Ga _ e2 w) (run_equalIn_int w dp _ k k _ _ hu) rfl
   ·exact fin _ _ _ g1.cr k1.cr (by rw[M]; exact mh hu rfl pre _ c2 w) (by rw[M,<- hp']; exact mh hu rfl Ga _ e2 w) (run_equalIn_bool' w dp _ _ _ hu) rfl
   ·refine fin _ _ _ g1.jc k1.jc (by rw[M]; exact mh hu rfl pre _ c2 w) (by rw[M,<- hp']; exact mh hu rfl Ga _ e2 w) (run_equalIn_string w dp _ _ _ hu) ?_
    rw[Gp,Gp]
    rfl
 | .int _,_,_,_,_,_,_,_,_,h,_,_,_,_=>by simp[VZ]at h
 | .bool,_,_,_,_,_,_,_,_,h,_,_,_,_=>by simp[VZ]at h
 | .str,_,_,_,_,_,_,_,_,h,_,_,_,_=>by simp[VZ]at h
 | .sl _,_,_,_,_,_,_,_,_,h,_,_,_,_=>by simp[VZ]at h
 | .expr,_,_,_,_,_,_,_,_,h,_,_,_,_=>by simp[VZ]at h
theorem IF{op:BinOp}{t:Nat}{px py:Operand}{x y:Option D}{v u:Value}{d:Option D}{ql:St}(hI:Inv Z)(N:∀ z,x=some z->RD Z z v)(hy:∀ z,y=some z->RD Z z u)
  (h:(qu (z03 c op t x y) Z.st).leads (d,ql)):wz c.P (do zG (.value (<- (do eqGuard op t px py v u; binOp op t v u)))) Z d ql:=by
 unfold z03 at h
 split at h
 ·rename_i τ a σ b
  split at h
  ·rename_i b' I
   unfold jP at I
   split at I
   ·rename_i e
    subst e
    injection I with I
    subst I
    cases hg:σ.isAgg&&Gq c σ t with
    | false=>rw[hg]at h; exact absurd h zh
    | true =>
     rw[hg,cond_true]at h
     rw[zM]at hg
     obtain⟨hag,hso⟩:=hg
     unfold Gq at hso
     split at hso
     ·rename_i fs hu
      simp at hso
      obtain⟨f1,f2,f3⟩:=hso
      have hfo:c.P.fieldsOf t=fs:=by unfold Program.fieldsOf; rw[hu]
      cases N _ rfl with
      | qi _ _ cs g1 =>
      cases hy _ rfl with
      | qi _ _ my g2 =>
       have e1:pk σ cs=.agg cs.toArray:=by unfold pk; rw[if_pos hag]
       have e2:pk σ my=.agg my.toArray:=by unfold pk; rw[if_pos hag]
       have hr:=VW (c:=c) 9998 σ a b 0 fs.toList [] [] cs my f1 g1 g2 rfl rfl
       have hq:(qC 10000 t (.agg cs.toArray) (.agg my.toArray)).run c.P Z.w=.ok (eqT σ a b) Z.w:=by
        rw[show(10000:Nat)=9999+1 from rfl,run_equalIn_agg Z.w 9999 t _ _ (xz) f2,hfo]
        exact hr
       rw[e1,e2]
       cases op<;>try (exact absurd h zh)
       ·rw[Xa]at h; obtain⟨rfl,rfl⟩:=h
        refine wz.pure hI ?_ RD.bool
        simp only[X,run_eqGuard_agg Z.w _ t px py _ _ f3,E,run_eql_struct,hq]
       ·rw[Xa]at h; obtain⟨rfl,rfl⟩:=h
        refine wz.pure hI ?_ RD.bool
        simp only[X,run_eqGuard_agg Z.w _ t px py _ _ f3,E,run_neq_struct,hq]
     ·cases hso
   ·cases I
  ·exact absurd h zh
 ·exact absurd h zh
theorem Y2{op:BinOp}{t:Nat}{px py:Operand}{x y:Option D}{v u:Value}{d:Option D}{ql:St}(hI:Inv Z)(N:∀ z,x=some z->RD Z z v)(hy:∀ z,y=some z->RD Z z u)
  (h:(qu (Y1 c op t x y) Z.st).leads (d,ql)):wz c.P (do zG (.value (<- (do eqGuard op t px py v u; binOp op t v u)))) Z d ql:=by
 unfold Y1 at h
 split at h
 ·rename_i k a k' b hk Kz
  have:=kt hk N
  subst this
  have:=kt Kz hy
  subst this
  split at h
  ·rw[yy]at h
   obtain⟨I,rfl,rfl⟩:=h
   refine wz.pure hI ?_ RD.int
   simp only[X,QW,E,binOp,Op.shift,if_neg (show ¬ b<0 by omega)]
   rfl
  ·rw[yy]at h
   obtain⟨I,rfl,rfl⟩:=h
   refine wz.pure hI ?_ RD.int
   simp only[X,QW,E,binOp,Op.shift,if_neg (show ¬ b<0 by omega)]
   rfl
  ·rename_i n1 n2
   cases he:decide (k=k')with
   | false=>rw[he]at h; exact absurd h zh
   | true =>
    have IV:=uA he
    subst IV
    rw[he,cond_true]at h
    obtain⟨y',v',rfl,rfl,h1,M⟩:=Im (c:=c) (Z:=Z) (t:=t) h (by cases op<;>first | rfl | (exact absurd rfl n1) | (exact absurd rfl n2))
    exact wz.pure hI (by simp only[X,QW,E,h1]) M
 ·split at h
  ·rename_i a b ha I
   have:=QF ha N
   subst this
   have:=QF I hy
   subst this
   cases hs:KB op with
   | true=>rw[hs]at h; exact absurd h zh
   | false =>
    rw[hs,cond_false]at h
    obtain⟨y',v',rfl,rfl,h1,M⟩:=Iq (c:=c) (Z:=Z) (t:=t) h hs
    exact wz.pure hI (by simp only[X,Ed,E,h1]) M
  ·split at h
   ·rename_i a b hu ha I
    have:=tJ ha N
    subst this
    have:=tJ I hy
    subst this
    cases op<;>simp only[z04]at h<;>try (exact absurd h zh)
    all_goals
     rw[Xa]at h; obtain⟨rfl,rfl⟩:=h
     refine wz.pure hI ?_ RD.bool
     simp only[X,Cf,E,binOp,IG hu,zN]
   ·exact IF hI N hy h
theorem z94{op:UnOp}{x:Option D}{v:Value}{d:Option D}{ql:St}(hI:Inv Z)(N:∀ z,x=some z->RD Z z v)
  (h:(qu (z3n op x) Z.st).leads (d,ql)):wz c.P (do zG (.value (<- Op.unary op v))) Z d ql:=by
 unfold z3n at h
 split at h
 ·split at h
  ·rename_i k n hk
   have:=kt hk N
   subst this
   obtain⟨rfl,rfl⟩:=h
   exact wz.pure hI (by rfl) RD.int
  ·exact absurd h zh
 ·split at h
  ·rename_i b I
   have:=tJ I N
   subst this
   obtain⟨rfl,rfl⟩:=h
   exact wz.pure hI (by rfl) RD.bool
  ·exact absurd h zh
 ·split at h
  ·rename_i k n hk
   have:=kt hk N
   subst this
   obtain⟨rfl,rfl⟩:=h
   exact wz.pure hI (by rfl) RD.int
  ·exact absurd h zh
 ·exact absurd h zh
theorem z6q{t ty:Nat}{ts:Array Nat}{x:Option D}{v:Value}{vs:Array Value}{d:Option D}{ql:St}(hI:Inv Z)(N:∀ z,x=some z->RD Z z v)(ht:ts[0]? = some t)(hv:vs[0]? = some v)
  (h:(qu (z1j c t x) Z.st).leads (d,ql)):wz c.P (do zG (.value (<- zV ts ty vs))) Z d ql:=by
 unfold z1j at h
 split at h
 ·rename_i e hu
  have key:∀ (n:Nat) (a:Option Addr) (cap:Nat),v=.slice a n cap->d=some (.qi (.int .i64) (n:Int))->ql=Z.st->wz c.P (do zG (.value (<- zV ts ty vs))) Z d ql:=by
   rintro n a cap rfl rfl rfl
   exact wz.pure hI (by simp[zV,ht,hv,run_underlying hu,goInt]) RD.int
  split at h
  ·rename_i e' l
   rw[Z0]at h
   rcases((N _ rfl).jF rfl).tA with⟨rfl,a0,he⟩ | ⟨blk,off,cap,f,he,_⟩
   ·grind
   ·grind
  ·rename_i e' l ne
   rw[Z0]at h
   cases N _ rfl with
   | vy _ a0=>grind
   | tight=>grind
  ·rw[Z0]at h
   cases N _ rfl
   grind
  ·rw[Z0]at h
   cases N _ rfl
   grind
  ·exact absurd h zh
 ·rename_i hu
  split at h
  ·rename_i s hs
   have:=QF hs N
   subst this
   obtain⟨rfl,rfl⟩:=h
   have bM:(⟨s.toArray⟩:ByteArray).size=s.length:=rfl
   exact wz.pure hI (by simp only[zV,ht,hv,X,run_underlying hu,E,goInt,bM,zN]) RD.int
  ·exact absurd h zh
 ·exact absurd h zh
theorem Lg{f:Int->Int->Int}{g:Value->Value->Sem Value}{P:Program}(hg:∀ k k' a b,(g (.int k a) (.int k' b)).run P Z.w=.ok (.int k (f a b)) Z.w){x y:Option D}{v u:Value}{d:Option D}{ql:St}
  (hI:Inv Z) (N:∀ z,x=some z->RD Z z v) (hy:∀ z,y=some z->RD Z z u) (h:(qu (YS f [x,y]) Z.st).leads (d,ql)) :
  ∃ r,(g v u).run P Z.w=.ok r Z.w/\ql=Z.st/\∀ d',d=some d'->RD Z d' r:=by
 unfold YS at h
 simp only at h
 split at h
 ·rename_i k a k' b hk Kz
  have:=kt hk N
  subst this
  have:=kt Kz hy
  subst this
  cases he:decide (k=k')with
  | false=>rw[he]at h; exact absurd h zh
  | true =>
   rw[he,cond_true,Z0]at h
   obtain⟨rfl,rfl⟩:=h
   exact⟨_,hg k k' a b,rfl,λd' he=>by cases he; exact RD.int⟩
 ·exact absurd h zh
theorem Ci{x:Option D}{i:Nat}{v:Value}{d:Option D}{ql:St}(hI:Inv Z)(N:∀ z,x=some z->RD Z z v)
  (h:(qu (J7 x i) Z.st).leads (d,ql)):wz c.P (do zG (.value (<- Instr.extract v i))) Z d ql:=by
 unfold J7 at h
 split at h
 ·rename_i vs
  obtain⟨y,hy,rfl,rfl⟩:=YJ h
  cases N _ rfl with
  | eG _ us R hh =>
   obtain⟨u,h1,M⟩:=wN.get (⟨R,hh⟩:wN Z vs us) hy
   exact wz.pure hI (by simp[Instr.extract,h1]) M
 ·exact absurd h zh
theorem oq:∀ {l:List (Option D)} {ds:List D},gC l=some ds->l=ds.map some
 | [],ds,h=>by simp[gC]at h; subst h; rfl
 | some d::r,ds,h=>by
  simp only[gC]at h
  split at h
  ·rename_i l R; cases h; simp[oq R]
  ·cases h
 | none::r,ds,h=>by simp[gC]at h
theorem fB{l:List (Option D)}{ds:List D}{vs:List Value}(h:gC l=some ds)(R:l.length=vs.length)
  (hr:∀ (i:Nat) (d:D) (v:Value),l[i]? = some (some d)->vs[i]? = some v->RD Z d v):wN Z ds vs:=by
 have:=oq h
 subst this
 refine⟨xz,λi h1 M=>hr i _ _ ?_ (zP M)⟩
 simp
end
end Go.AM
namespace Go.AM
namespace T
variable {α β γ:Type}
theorem ma{t:T α}{x y:α}(h:t.leads x)(k:t.leads y):x=y:=by
 induction t with
 | ret a=>exact h.symm.trans k
 | ite b p q ip iq =>
  rcases h with⟨h1,h⟩ | ⟨h1,h⟩<;>rcases k with⟨k1,k⟩ | ⟨k1,k⟩
  ·grind
  ·grind
  ·grind
  ·grind
 | W p t ih=>exact ih h.2 k.2
 | fail=>exact h.elim
theorem zd{t:T α}{f:α->T β}{x:β}:(t.bind f).leads x↔∃ a,t.leads a/\(f a).leads x:=by
 induction t with
 | ret a=>exact⟨λh=>⟨a,rfl,h⟩,λ⟨b,h,k⟩=>by cases h; exact k⟩
 | ite b p q ip iq =>
  constructor
  ·rintro(⟨h1,h⟩ | ⟨h1,h⟩)
   ·obtain⟨a,k1,k2⟩:=ip.1 h; exact⟨a,.inl ⟨h1,k1⟩,k2⟩
   ·obtain⟨a,k1,k2⟩:=iq.1 h; exact⟨a,.inr ⟨h1,k1⟩,k2⟩
  ·rintro⟨a,⟨h1,k1⟩ | ⟨h1,k1⟩,k2⟩
   ·exact .inl ⟨h1,ip.2 ⟨a,k1,k2⟩⟩
   ·exact .inr ⟨h1,iq.2 ⟨a,k1,k2⟩⟩
 | W p t ih =>
  constructor
  ·rintro⟨h1,h⟩; obtain⟨a,k1,k2⟩:=ih.1 h; exact⟨a,⟨h1,k1⟩,k2⟩
  ·rintro⟨a,⟨h1,k1⟩,k2⟩; exact⟨h1,ih.2 ⟨a,k1,k2⟩⟩
 | fail=>exact⟨λh=>h.elim,λ⟨_,h,_⟩=>h.elim⟩
open Classical in
noncomputable def run:T α->Option α
 | ret a=>some a
 | ite b t e=>bif b then t.run else e.run
 | W p t=>if p then t.run else none
 | fail=>none
@[simp] theorem wa(a:α):(ret a).run=some a:=rfl
@[simp] theorem zkZ:(fail:T α).run=none:=rfl
theorem run_ite(b:Bool)(t e:T α):(ite b t e).run=if b=true then t.run else e.run:=by cases b<;>rfl
@[simp] theorem UF(t e:T α):(ite true t e).run=t.run:=rfl
@[simp] theorem WC(t e:T α):(ite false t e).run=e.run:=rfl
theorem xi{p:Prop}(h:p)(t:T α):(W p t).run=t.run:=by simp only[run,if_pos h]
theorem vG{b:Bool}(h:b=true)(t e:T α):(ite b t e).run=t.run:=by rw[h]; rfl
theorem j7{b:Bool}(h:b=false)(t e:T α):(ite b t e).run=e.run:=by rw[h]; rfl
theorem yA{t:T α}{x:α}:t.run=some x↔t.leads x:=by
 induction t with
 | ret a=>simp[leads]
 | ite b p q ip iq=>cases b<;>simp[leads,ip,iq]
 | W p t ih=>by_cases h:p<;>simp[run,leads,ih]
 | fail=>simp[leads]
theorem run_bind(t:T α)(f:α->T β):(t.bind f).run=t.run.bind λa=>(f a).run:=by
 induction t with
 | ret a=>rfl
 | ite b p q ip iq=>cases b<;>simp[bind,ip,iq]
 | W p t ih=>by_cases h:p<;>simp[run,bind,h,ih]
 | fail=>rfl
theorem zu{t:T α}{a:α}(h:t.run=some a)(f:α->T β):(t.bind f).run=(f a).run:=by rw[run_bind,h]; rfl
section loop
variable {σ ρ:Type} (r:σ->T (σ⊕ρ))
inductive Iter:Nat->σ->ρ->Prop
 | done {s:σ} {x:ρ} (h:(r s).leads (.inr x)):Iter 0 s x
 | step {n:Nat} {s s':σ} {x:ρ} (h:(r s).leads (.inl s')) (k:Iter n s' x):Iter (n+1) s x
theorem Iter.det{r:σ->T (σ⊕ρ)}{n m:Nat}{s:σ}{x y:ρ}(h:Iter r n s x)(k:Iter r m s y):x=y:=by
 induction h generalizing m y with
 | done h =>
  cases k with
  | done k=>have:=ma h k; cases this; rfl
  | step k _=>have:=ma h k; cases this
 | step h _ ih =>
  cases k with
  | done k=>have:=ma h k; cases this
  | step k k2=>have:=ma h k; cases this; exact ih k2
open Classical in
noncomputable def loop (s:σ):T ρ:=if h:∃ x n,Iter r n s x then .ret h.choose else .fail
theorem eW{s:σ}{x:ρ}:(loop r s).leads x↔∃ n,Iter r n s x:=by
 unfold loop
 split
 ·rename_i h
  obtain⟨n,hn⟩:=h.choose_spec
  constructor
  ·intro N; cases N; exact⟨n,hn⟩
  ·rintro⟨m,hm⟩; exact hn.det hm
 ·rename_i h
  exact⟨λk=>k.elim,λ⟨n,hn⟩=>h ⟨x,n,hn⟩⟩
theorem Xb{r:σ->T (σ⊕ρ)}(hb:σ->Prop)(μ:σ->Nat)(f:σ->ρ)
  (h:∀ s,hb s->(∃ s',(r s).run=some (.inl s')/\hb s'/\μ s'<μ s/\f s'=f s)\/(r s).run=some (.inr (f s))) {s:σ} (hs:hb s):(loop r s).run=some (f s):=by
 rw[yA,eW]
 generalize hm:μ s=m
 induction m using Nat.strongRecOn generalizing s with
 | _ m ih =>
  rcases h s hs with⟨s',h1,M,h3,h4⟩ | h1
  ·obtain⟨n,hn⟩:=ih (μ s') (O) M rfl
   exact⟨n+1,.step (yA.1 h1) (h4▸hn)⟩
  ·exact⟨0,.done (yA.1 h1)⟩
theorem XU{r:σ->T (σ⊕ρ)}{s s':σ}(h:(r s).run=some (.inl s')):(loop r s).run=(loop r s').run:=by
 have h':=yA.1 h
 apply Option.ext
 intro x
 show(loop r s).run=some x↔(loop r s').run=some x
 rw[yA,yA,eW,eW]
 constructor
 ·rintro⟨n,hn⟩
  cases hn with
  | done k=>have:=ma h' k; cases this
  | step k k2=>have:=ma h' k; cases this; exact⟨_,k2⟩
 ·rintro⟨n,hn⟩; exact⟨n+1,.step h' hn⟩
theorem pg{r:σ->T (σ⊕ρ)}{s:σ}{x:ρ}(h:(r s).run=some (.inr x)):(loop r s).run=some x:=by
 rw[yA,eW]; exact⟨0,.done (yA.1 h)⟩
end loop
section fix
variable {σ ρ:Type} (b:(σ->T ρ)->σ->T ρ)
def Wq:Nat->σ->T ρ
 | 0,_=>.fail
 | n+1,x=>b (Wq n) x
open Classical in
noncomputable def fix (x:σ):T ρ:=if h:∃ y n,∀ m,n<=m->(Wq b m x).leads y then .ret h.choose else .fail
theorem lX{x:σ}{y:ρ}:(fix b x).leads y↔∃ n,∀ m,n<=m->(Wq b m x).leads y:=by
 unfold fix
 split
 ·rename_i h
  obtain⟨n,hn⟩:=h.choose_spec
  constructor
  ·intro N; cases N; exact⟨n,hn⟩
  ·rintro⟨k,hk⟩; exact ma (hn (max n k) (O)) (hk (max n k) (O))
 ·rename_i h
  exact⟨λk=>k.elim,λ⟨n,hn⟩=>h ⟨y,n,hn⟩⟩
end fix
def Uz:T α->Option Prop
 | ret _=>none
 | ite b t e=>match t.Uz,e.Uz with
  | none,none=>none
  | some p,none=>some (b=true->p)
  | none,some q=>some (b=false->q)
  | some p,some q=>some ((b=true->p)/\(b=false->q))
 | W p t=>match t.Uz with
  | none=>some p
  | some q=>some (p/\q)
 | fail=>some False
def val(d:α):T α->α
 | ret a=>a
 | ite b t e=>bif b then t.val d else e.val d
 | W _ t=>t.val d
 | fail=>d
def flat(d:α)(t:T α):T α:=match t.Uz with
 | none=>.ret (t.val d)
 | some p=>.W p (.ret (t.val d))
def Kj(t:T α):Prop:=match t.Uz with | none=>True | some p=>p
theorem Gb(d:α)(t:T α)(x:α):t.leads x↔t.Kj/\t.val d=x:=by
 induction t with
 | ret a=>simp[leads,Kj,Uz,val]
 | ite b p q ip iq =>
  cases b
  ·simp only[leads,val,iq]
   unfold Kj
   simp only[Uz]
   grind
  ·simp only[leads,val,ip]
   unfold Kj
   simp only[Uz]
   grind
 | W p t ih =>
  simp only[leads,ih,val]
  unfold Kj
  simp only[Uz]
  grind
 | fail=>simp[leads,Kj,Uz]
end T
abbrev qo(x:Int):Int:=zX .i64 x
abbrev wk(x:Int):Int:=zX .u64 x
abbrev gP(x:Int):Int:=zX .u32 x
abbrev wu8(x:Int):Int:=zX .u8 x
def zw(vi off len n:Nat):Prop:=vi=n/\off=0/\len=n
def xe(i:Int)(n:Nat):Prop:=0<=i/\i<(n:Int)
def uO(vi dF idx n:Nat):Prop:=vi=dF/\idx<n
def vV(vi dF off len n m bytes:Nat):Prop:=vi=dF/\off=0/\len=n/\(n+m)*bytes<=140737488355328
def jA(l h:Int)(n:Nat):Prop:=0<=l/\l<=h/\h<=(n:Int)
def zl3(l h m:Int)(n:Nat):Prop:=0<=l/\l<=h/\h=m/\h<=(n:Int)
def D2(l:zx):Nat->zx
 | 0=>[]
 | c+1=>l++D2 l c
def E4(u:Nat):zx:=if h:u<10 then[UInt8.ofNat (48+u)]else E4 (u / 10)++[UInt8.ofNat (48+u % 10)]
termination_by u
decreasing_by omega
def Yu(n:Int):zx:=if n<0 then 45::E4 n.natAbs else E4 n.toNat
def Yp:zx->zx->Int
 | [],sub=>if sub.isEmpty then 0 else -1
 | b::l,sub=>if sub.isPrefixOf (b::l)then 0 else if Yp l sub == -1 then -1 else Yp l sub+1
def U5:zx->UInt8->Int
 | [],_ => -1
 | b::l,c=>if b==c then 0 else if U5 l c == -1 then -1 else U5 l c+1
def E3(s sep:zx):zx×zx×Bool:=if 0<=Yp s sep then(s.take (Yp s sep).toNat,s.drop ((Yp s sep).toNat+sep.length),true)else(s,[],false)
def De(s p:zx):zx:=if List.isPrefixOf p s=true then s.drop p.length else s
def lG(s:zx):den (mO .bool 256):=Rl (e:=.bool) (λj=>s.contains (UInt8.ofNat j)) 256 0
def QM(v v' o l n:Nat):Prop:=v=v'/\o+l<=n
def CI(a b:Nat):Nat:=min a b
def eF(n m:Int)(bytes:Nat):Prop:=0<=n/\n<=m/\m*bytes<=140737488355328/\m<=140737488355328
def nth{α:Type}(l:List α)(i:Int)(d:α):α:=zR l i.toNat d
def wh{α:Type}(l:List α)(i:Nat)(d:α):α:=zR l i d
def ur(s:zx)(i:Int):Int:=((zR s i.toNat 0).toNat:Int)
def GR(k:IntKind)(x y:Int):Int:=QG k (· &&& ·) x y
def Hc(k:IntKind)(x y:Int):Int:=QG k (· ||| ·) x y
def M7(k:IntKind)(x y:Int):Int:=QG k (· ^^^ ·) x y
def z3g(l:List Int):T (zx×Unit):=.W ((∀ n∈l,(0:Int)<=n/\n<256)/\V l<=140737488355328) (.ret (ku l,()))
end Go.AM
namespace Go.AM
def z8F(b:UInt8):List zx->List zx
 | []=>[[b]]
 | x::y=>(b::x)::y
def lj(c:UInt8):zx->List zx
 | []=>[[]]
 | b::r=>if b=c then[]::lj c r else z8F b (lj c r)
def sj(c:UInt8):zx->zx->List zx
 | cur,[]=>if cur=[]then[]else[cur]
 | cur,b::r=>if b=c then(if cur=[]then sj c [] r else cur::sj c [] r)else sj c (cur++[b]) r
def rj:zx->zx->Int
 | [],_ => -1
 | b::l,chars=>if chars.contains b then 0 else if rj l chars == -1 then -1 else rj l chars+1
abbrev oI{A hl:Type}(i:Int)(l:List A)(t:T hl):T hl:=.W (xe i l.length) t
abbrev U{A hl:Type}(l:List A)(t:T hl):T hl:=.W (l.length=l.length) t
abbrev oC{A hl:Type}(l:List A)(t:T hl):T hl:=.W (zw l.length 0 l.length l.length) t
abbrev oM{hl:Type}(a b:Nat)(t:T hl):T hl:=.W (zw a 0 a b) (.W (a=b) t)
abbrev oA{A hl:Type}(l:List A)(k:Nat)(t:T hl):T hl:=.W (vV l.length l.length 0 l.length l.length 1 k) t
abbrev oK{hl:Type}(a b:zx)(t:T hl):T hl:=.W (a.length+b.length<=4611686018427387904) t
abbrev oZ{hl:Type}(t:T hl):T hl:=.W (zw 0 0 0 0) (.W ((0:Nat)=0) t)
abbrev oV{A zA C D zB F hl:Type}(a:List A)(b:List zA)(c:List C)(d:List D)(e:List zB)(f:List F)(t:T hl):T hl:=oC a (oC b (oC c (oC d (oC e (oC f t)))))
abbrev oW{A zA C D zB F hl:Type}(a:List A)(b:List zA)(c:List C)(d:List D)(e:List zB)(f:List F)(t:T hl):T hl:=U a (U b (U c (U d (U e (U f t)))))
abbrev oY{A zA C D zB F hl:Type}(a:List A)(b:List zA)(c:List C)(d:List D)(e:List zB)(f:List F)(t:T hl):T hl:=oV a b c d e f (oW a b c d e f t)
end Go.AM
namespace Go.AM
namespace T
variable {α β:Type}
attribute [simp] run_bind
@[simp] theorem Fu(b:Bool)(t e:T α):(ite b t e).run=if b=true then t.run else e.run:=run_ite b t e
@[simp] theorem vL{i:Int}{n:Nat}(t:T α)(h1:0<=i)(M:i<(n:Int)):(W (xe i n) t).run=t.run:=xi ⟨h1,M⟩ t
@[simp] theorem fD{v v' i n:Nat}(t:T α)(h1:v=v')(M:i<n):(W (uO v v' i n) t).run=t.run:=xi ⟨h1,M⟩ t
@[simp] theorem zlI{v v' o l n m b:Nat}(t:T α)(h1:v=v')(M:o=0)(h3:l=n)(h4:(n+m)*b<=140737488355328):(W (vV v v' o l n m b) t).run=t.run:=xi ⟨h1,M,h3,h4⟩ t
@[simp] theorem bh{v o l n:Nat}(t:T α)(h1:v=n)(M:o=0)(h3:l=n):(W (zw v o l n) t).run=t.run:=xi ⟨h1,M,h3⟩ t
@[simp] theorem Xr{l h:Int}{n:Nat}(t:T α)(h1:0<=l)(M:l<=h)(h3:h<=(n:Int)):(W (jA l h n) t).run=t.run:=xi ⟨h1,M,h3⟩ t
@[simp] theorem run_mk{n m:Int}{b:Nat}(t:T α)(h1:0<=n)(M:n<=m)(h3:m*b<=140737488355328)(h4:m<=140737488355328):(W (eF n m b) t).run=t.run:=xi ⟨h1,M,h3,h4⟩ t
@[simp] theorem z8R{v v' o l n:Nat}(t:T α)(h1:v=v')(M:o+l<=n):(W (QM v v' o l n) t).run=t.run:=xi ⟨h1,M⟩ t
@[simp] theorem yX{a b:Nat}(t:T α)(h:a=b):(W (a=b) t).run=t.run:=xi h t
@[simp] theorem zlJ{a b:Nat}(t:T α)(h:a<=b):(W (a<=b) t).run=t.run:=xi h t
@[simp] theorem iU{a b:Int}(t:T α)(h:a<=b):(W (a<=b) t).run=t.run:=xi h t
@[simp] theorem sW{a b:Int}(t:T α)(h:a≠b):(W (a≠b) t).run=t.run:=xi h t
@[simp] theorem zpb{A:Type}{i:Int}{l:List A}(t:T α)(h1:0<=i)(M:i<(l.length:Int)):(oI i l t).run=t.run:=xi ⟨h1,M⟩ t
@[simp] theorem zpa{A:Type}(l:List A)(t:T α):(U l t).run=t.run:=xi rfl t
@[simp] theorem zp9{A:Type}(l:List A)(t:T α):(oC l t).run=t.run:=xi ⟨rfl,rfl,rfl⟩ t
@[simp] theorem zpd{a b:Nat}(t:T α)(h:a=b):(oM a b t).run=t.run:=(xi ⟨h,rfl,h⟩ _).trans (xi h t)
@[simp] theorem zp8{A:Type}{l:List A}{k:Nat}(t:T α)(h:(l.length+1)*k<=140737488355328):(oA l k t).run=t.run:=xi ⟨rfl,rfl,rfl,h⟩ t
@[simp] theorem zpc{a b:zx}(t:T α)(h:a.length+b.length<=4611686018427387904):(oK a b t).run=t.run:=xi h t
@[simp] theorem Gk(t:T α):(W True t).run=t.run:=xi trivial t
end T
@[simp] theorem qv{x:Int}(h1 : -9223372036854775808<=x)(M:x<=9223372036854775807):qo x=x:=IntWalk.i64_in x ⟨h1,M⟩
@[simp] theorem zdr{x:Int}(h1:0<=x)(M:x<=255):wu8 x=x:=IntWalk.u8_in x ⟨h1,M⟩
@[simp] theorem PJ{x:Int}(h1:0<=x)(M:x<=4294967295):gP x=x:=IntWalk.u32_in x ⟨h1,M⟩
@[simp] theorem gQ{x:Int}(h1:0<=x)(M:x<=18446744073709551615):wk x=x:=IntWalk.u64_in x ⟨h1,M⟩
theorem Zg(x:Int):gP x=x % 4294967296:=IntKind.wrap_u32 x
theorem FL(x:Int):wk x=x % 18446744073709551616:=IntKind.wrap_u64 x
end Go.AM