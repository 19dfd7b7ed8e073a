/-
  The abstract machine, part A: texts of our own, the same for each claim.
-/
import Derived.WalkKit
import Derived.Laws.StructEq
set_option linter.unusedVariables false
namespace Go.AM
theorem fg{a b c d:Prop}(h:a\/b)(f:a->c)(g:b->d):c\/d:=by grind
abbrev ze:=List UInt8
inductive Ty where
 | int (k:IntKind) | bool | str | sl (e:Ty) | nil | cons (a b:Ty) | expr
 deriving DecidableEq
inductive Expr where
 | mk (kind:Int) (num:Bool×List Int×List Int×Unit) (name:ze) (kids:List Expr)
def Expr.kind:Expr->Int | .mk k _ _ _=>k
def Expr.num:Expr->Bool×List Int×List Int×Unit | .mk _ n _ _=>n
def Expr.name:Expr->ze | .mk _ _ n _=>n
def Expr.kids:Expr->List Expr | .mk _ _ _ l=>l
@[reducible] def den:Ty->Type
 | .int _=>Int
 | .bool=>Bool
 | .str=>ze
 | .sl e=>List (den e)
 | .nil=>Unit
 | .cons a b=>den a×den b
 | .expr=>Expr
abbrev u32:Ty:=.int .u32
abbrev i64:Ty:=.int .i64
abbrev KO:Ty:=.cons .bool (.cons (.sl u32) (.cons (.sl u32) .nil))
abbrev Qj:Ty:=.cons i64 (.cons KO (.cons .str (.cons (.sl .expr) .nil)))
def Expr.OJ(e:Expr):den Qj:=(e.kind,e.num,e.name,e.kids,())
def Expr.EV(x:den Qj):Expr:=.mk x.1 x.2.1 x.2.2.1 x.2.2.2.1
def Ty.size:Ty->Nat
 | .int _ | .bool | .str | .sl _=>1
 | .nil=>0
 | .cons a b=>a.size+b.size
 | .expr=>6
def Ty.isAgg:Ty->Bool
 | .nil | .cons _ _ | .expr=>true
 | _=>false
def zk:(τ:Ty)->den τ
 | .int _=>(0:Int)
 | .bool=>false
 | .str=>([]:ze)
 | .sl e=>([]:List (den e))
 | .nil=>()
 | .cons a b=>(zk a,zk b)
 | .expr=>.mk 0 (false,[],[],()) [] []
inductive D where
 | zI (τ:Ty) (x:den τ)
 | tight (e:Ty) (l:List (den e)) (ne:Bool)
 | xr | yd | qV | vW | vV
 | ptr (b off:Nat)
 | qR (τ:Ty) (x:den τ)
 | uo (b qA:Nat) (e:Ty) (idx off:Nat)
 | ms (b qA:Nat) (e:Ty) (off len:Nat)
 | qW (f:Nat) (cap:List D)
 | agg (cs:List D)
 | yq (vs:List D)
 | iface (t:Nat) (d:D)
 | td
 | kJ (b T:Nat)
 | cA (T:Nat)
inductive kA where
 | dead
 | var (d:D)
 | arr (qA:Nat) (e:Ty) (xs:List (den e))
abbrev St:=List kA
inductive T(α:Type) where
 | ret (a:α)
 | ite (b:Bool) (t e:T α)
 | zL (p:Prop) (t:T α)
 | fail
namespace T
variable {α β:Type}
def bind:T α->(α->T β)->T β
 | ret a,k=>k a
 | ite b t e,k=>ite b (t.bind k) (e.bind k)
 | zL p t,k=>zL p (t.bind k)
 | fail,_=>fail
def Gi:Option α->T α
 | some a=>ret a
 | none=>fail
def leads:T α->α->Prop
 | ret a,x=>a=x
 | ite b t e,x=>(b=true/\t.leads x)\/(b=false/\e.leads x)
 | zL p t,x=>p/\t.leads x
 | fail,_=>False
def wp(Q:α->Prop):T α->Prop
 | ret a=>Q a
 | ite b t e=>(b=true->t.wp Q)/\(b=false->e.wp Q)
 | zL p t=>p/\t.wp Q
 | fail=>False
end T
abbrev Fr:=List (Nat×Option D)
def Fr.get:Fr->Nat->Option D
 | [],_=>none
 | (t,d)::r,s=>bif Nat.beq t s then d else Fr.get r s
def Fr.put(fr:Fr)(dst:Option Nat)(d:Option D):Fr :=
 match dst with
 | some t=>(t,d)::fr
 | none=>fr
abbrev Kn:=List (Nat×Option Bool)
def Kn.get:Kn->Nat->Option Bool
 | [],_=>none
 | (t,b)::r,s=>bif Nat.beq t s then b else Kn.get r s
inductive GC where
 | ret (ds:List D)
 | kB (d:D)
inductive X6 where
 | rp (τ:Ty) | im (τ:Ty)
inductive Za where
 | ty (τ:Ty) | rp (τ:Ty) | qW (f:Nat) (caps:List X6)
structure Sig where
 params:List Za
 res:List Ty
structure Ctx where
 P:Program
 xid:Nat
 sig:Nat->List D->Option Sig
 fn:Nat->List D->St->T (GC×St)
 ro:Nat->Bool
 /-- Blocks that a call leaves as they are. -/
 free:Nat->List D->St->List Nat
 Tl:∀ (g:Nat) (args:List D) (st:St) (rs:GC) (zt:St) (b:Nat),(fn g args st).leads (rs,zt)->b∈free g args st->zt[b]? = st[b]?
inductive Ex where
 | normal | exit (id:Nat) | ret | kB (d:D)
class su where
 u8:Nat
def z8P[su](e:Ty)(t:Nat):Bool:=match e with
 | .int .u8=>Nat.beq t su.u8
 | _=>true
def z5s[su](e:Ty)(t:Nat):Prop:=e=.int .u8->t=su.u8
section ops
variable (c:Ctx)
variable [su]
def fP(t:Nat):Option Nat:=(c.P.info? t).map (·.size)
def ng(t:Nat):Option Nat:=(c.P.info? t).map (·.bytes)
def Dg(t:Nat):Option Bool:=match c.P.underlying t with | some (.struct _) | some (.array _ _)=>some true | some _=>some false | none=>none
def cM:List (Option Ty)->Option Ty
 | []=>some .nil
 | some a::r=>match cM r with | some b=>some (.cons a b) | none=>none
 | none::_=>none
def B9:Nat->Nat->Option Ty
 | 0,_=>none
 | n+1,t=>bif Nat.beq t c.xid then some .expr else
  match c.P.underlying t with
  | some (.int k)=>some (.int k)
  | some .bool=>some .bool
  | some .string=>some .str
  | some (.slice e)=>match B9 n e with | some a=>some (.sl a) | none=>none
  | some (.struct fs)=>cM (fs.toList.map λf=>B9 n f.type)
  | some (.array k e)=>cM (List.replicate k (B9 n e))
  | _=>none
def k9(t:Nat)(τ:Ty):Bool:=z8P τ t&&(match fP c t with | some n=>Nat.beq n τ.size | none=>false)&&(match Dg c t with | some b=>b==τ.isAgg | none=>false)
def p9:Value->Option D
 | .int k n=>some (.zI (.int k) n)
 | .bool b=>some (.zI .bool b)
 | .string s=>some (.zI .str s.data.toList)
 | .slice none 0 0=>some .xr
 | .pointer none=>some .yd
 | .nilFunc=>some .vW
 | .nilIface=>some .qV
 | .map none=>some .vV
 | _=>none
def uy:List (Option D)->Option (List D)
 | []=>some []
 | some d::r=>match uy r with | some l=>some (d::l) | none=>none
 | none::_=>none
def Wo:Value->Option D
 | .agg cs=>match uy (cs.toList.map p9)with | some l=>some (.agg l) | none=>none
 | v=>p9 v
def flat:(τ:Ty)->den τ->List D
 | .int k,x=>[.zI (.int k) x]
 | .bool,x=>[.zI .bool x]
 | .str,x=>[.zI .str x]
 | .sl e,x=>[.zI (.sl e) x]
 | .nil,_=>[]
 | .cons a b,x=>flat a x.1++flat b x.2
 | .expr,x=>[.zI i64 x.kind,.zI .bool x.num.1,.zI (.sl u32) x.num.2.1,.zI (.sl u32) x.num.2.2.1,.zI .str x.name,.zI (.sl .expr) x.kids]
def qh:D->List D
 | .zI τ x=>flat τ x
 | .agg cs=>cs
 | .yq _=>[]
 | d=>[d]
def D.isAgg:D->Bool
 | .agg _=>true
 | _=>false
def D.cL:D->Bool
 | .zI τ _=>τ.isAgg
 | .agg _=>true
 | _=>false
def D.zaB:D->Bool
 | .zI τ _=>τ.isAgg
 | .agg _=>true
 | _=>false
def gB:List D->Option Nat
 | .cA T::_=>some T
 | .kJ _ T::_=>some T
 | _=>none
def D.typed:D->Option Nat
 | .agg l=>gB l
 | _=>none
def n8(d d':D):Bool:=match d'.typed with
 | none=>true
 | some T=>match d.typed with | some T'=>Nat.beq T T' | none=>false
def D.uM:D->Bool
 | .yq _=>true
 | _=>false
def wP{a b:Ty}(x:den a):Option (den b):=if h:a=b then some (h▸x)else none
def di(e:Ty):Nat->Ty
 | 0=>.nil
 | n+1=>.cons e (di e n)
def D2:Ty->Option (Ty×Nat)
 | .cons e r=>match r with
  | .nil=>some (e,1)
  | r=>match D2 r with
   | some (e',n)=>bif decide (e=e')then some (e,n+1)else none
   | none=>none
 | _=>none
def pW(e:Ty):(τ:Ty)->den τ->Nat->den e
 | .cons _ _,x,0=>match(wP x.1:Option (den e))with | some y=>y | none=>zk e
 | .cons _ b,x,i+1=>pW e b x.2 i
 | _,_,_=>zk e
def NZ{e:Ty}(f:Nat->den e):(n:Nat)->Nat->den (di e n)
 | 0,_=>()
 | n+1,k=>(f k,NZ f n (k+1))
def eR(τ:Ty):D->Option (den τ)
 | .zI σ x=>wP x
 | .tight e l _=>wP (a:=.sl e) l
 | .xr=>match τ with | .sl e=>some ([]:List (den e)) | _=>none
 | _=>none
def jf:(τ:Ty)->List D->Option (den τ×List D)
 | .int k,d::r=>match eR (.int k) d with | some x=>some (x,r) | none=>none
 | .bool,d::r=>match eR .bool d with | some x=>some (x,r) | none=>none
 | .str,d::r=>match eR .str d with | some x=>some (x,r) | none=>none
 | .sl e,d::r=>match eR (.sl e) d with | some x=>some (x,r) | none=>none
 | .nil,r=>some ((),r)
 | .cons a b,r=>match jf a r with
  | some (x,r')=>match jf b r' with | some (y,r'')=>some ((x,y),r'') | none=>none
  | none=>none
 | .expr,[]=>none
 | .expr,d::r=>match eR i64 d with
  | none=>none
  | some k=>match r with
   | d1::d2::d3::d4::d5::r' =>
    match eR .bool d1,eR (.sl u32) d2,eR (.sl u32) d3,eR .str d4,eR (.sl .expr) d5 with
    | some a,some n,some m,some s,some l=>some (Expr.mk k (a,n,m,()) s l,r')
    | _,_,_,_,_=>none
   | _=>none
 | _,[]=>none
def fp(τ:Ty)(d:D):Option (den τ) :=
 match d with
 | .zI σ x=>wP x
 | d=>bif (d.isAgg==τ.isAgg) && !d.uM then match jf τ (qh d)with
   | some (x,[])=>some x
   | _=>none
  else none
def nS(st:St):D->T D
 | .ms b qA e off len=>match st[b]? with
  | some (.arr jQ e' xs)=>if h:e'=e then .zL (qA=jQ) (.ret (.zI (.sl e) (h▸((xs.take (off+len)).drop off:List (den e')))))else .fail
  | _=>.fail
 | d=>.ret d
def Yk(st:St):List D->T (List D)
 | []=>.ret []
 | d::r=>(nS st d).bind λx=>(Yk st r).bind λl=>.ret (x::l)
def snap(st:St):D->T D
 | .agg cs=>(Yk st cs).bind λl=>.ret (.agg l)
 | d=>nS st d
def QK(st:St)(τ:Ty)(d:D):T (den τ):=(snap st d).bind λx=>.Gi (fp τ x)
def YT:D->Bool | .ms .. => true | _=>false
inductive bz where
 | val (t:T (Option D))
 | rd (k:St->T (Option D))
 | wr (k:St->T (Option D×St))
def val(d:D):bz:=.val (.ret (some d))
def z2A(d:Option D):bz:=match d with | some d=>.val (.ret (some d)) | none=>.val .fail
def bad:bz:=.val .fail
def z5p(t:Nat):Bool:=match c.P.underlying t with
 | some (.struct fs)=>match fs[0]? with
  | some fd=>match c.P.underlying fd.type with | some (.pointer e)=>Nat.beq e t | _=>false
  | none=>false
 | _=>false
def PB(t:Nat)(d:D):D:=match d with
 | .agg (.yd::r)=>bif z5p c t then .agg (.cA t::r)else .agg (.yd::r)
 | d=>d
def Wt(t:Nat):Option D:=match c.P.info? t with
 | some i=>match i.zero with | some z=>(match Wo z with | some d=>some (PB c t d) | none=>none) | none=>none
 | none=>none
def Gl(l:List D)(off n:Nat):Option (List D) :=
 bif Nat.ble (off+n) l.length then some ((l.drop off).take n)else none
def DZ(t:Nat)(d:D)(off:Nat):Option D :=
 match Dg c t with
 | some true=>match fP c t with
  | none=>none
  | some n=>bif (Nat.beq off 0)&&Nat.beq n (qh d).length&&d.zaB then some d
   else match Gl (qh d) off n with | some l=>some (.agg l) | none=>none
 | some false=>(qh d)[off]?
 | none=>none
def CZ(t:Nat)(d:D)(off:Nat)(x:D):Option D :=
 match fP c t with
 | none=>none
 | some n=>bif Nat.blt 0 n&&Nat.beq n (qh x).length&&Nat.ble (off+n) (qh d).length then
   bif Nat.beq n (qh d).length then some x
   else some (.agg ((qh d).take off++qh x++(qh d).drop (off+n)))
  else none
def Uf(t:Nat)(a:Option D):bz:=match a with
 | some (.qR τ x)=>bif k9 c t τ then val (.zI τ x)else bad
 | some (.ptr b off)=>.rd λst=>match st[b]? with
  | some (.var d)=>match DZ c t d off with | some r=>.ret (some r) | none=>.fail
  | _=>.fail
 | some (.uo b qA e idx off)=>.rd λst=>match st[b]? with
  | some (.arr jQ e' xs)=>bif decide (e'=e)then
    .zL (qA=jQ/\idx<xs.length) (match DZ c t (.zI e' (xs.getD idx (zk e'))) off with | some r=>.ret (some r) | none=>.fail)
   else .fail
  | _=>.fail
 | _=>bad
def Vj(t:Nat)(a:Option D)(v:Option D):bz:=match a,v with
 | some (.ptr b off),some x=>.wr λst=>match st[b]? with
  | some (.var d)=>match CZ c t d off x with | some r=>bif n8 d r then .ret (none,st.set b (.var r))else .fail | none=>.fail
  | _=>.fail
 | some (.uo b qA e idx off),some x=>.wr λst=>match st[b]? with
  | some (.arr jQ e' xs)=>bif decide (e'=e)then
    .zL (qA=jQ/\idx<xs.length) (match CZ c t (.zI e' (xs.getD idx (zk e'))) off x with
     | some r=>match fp e' r with | some y=>.ret (none,st.set b (.arr jQ e' (xs.set idx y))) | none=>.fail
     | none=>.fail)
   else .fail
  | _=>.fail
 | _,_=>bad
def pT:(τ:Ty)->den τ->Nat->Option (D×Nat×Nat)
 | .cons a _,x,0=>some (.qR a x.1,0,a.size)
 | .cons a b,x,n+1=>match pT b x.2 n with | some (d,o,s)=>some (d,a.size+o,s) | none=>none
 | .expr,x,0=>some (.qR i64 x.kind,0,1)
 | .expr,x,1=>some (.qR KO x.num,1,3)
 | .expr,x,2=>some (.qR .str x.name,4,1)
 | .expr,x,3=>some (.qR (.sl .expr) x.kids,5,1)
 | _,_,_=>none
def Vg(s f:Nat):Option (Nat×Nat):=match c.P.underlying s with
 | some (.struct fs)=>match fs[f]? with
  | some fd=>match fP c fd.type with | some n=>bif Nat.beq n 0 then none else some (fd.offset,n) | none=>none
  | none=>none
 | _=>none
def pe(s f:Nat)(a:Option D):bz:=match Vg c s f with
 | none=>bad
 | some (o,n)=>match a with
  | some (.qR τ x)=>match pT τ x f with
   | some (d,o',n')=>bif Nat.beq o o'&&Nat.beq n n' then val d else bad
   | none=>bad
  | some (.ptr b off)=>val (.ptr b (off+o))
  | some (.uo b qA e idx off)=>val (.uo b qA e idx (off+o))
  | _=>bad
def Gr(s f:Nat)(a:Option D):bz:=match c.P.underlying s with
 | some (.struct fs)=>match fs[f]? with
  | some fd=>match a with
   | some d=>z2A (bif d.cL then DZ c fd.type d fd.offset else none)
   | none=>bad
  | none=>bad
 | _=>bad
def asInt:Option D->Option (IntKind×Int)
 | some (.zI (.int k) n)=>some (k,n)
 | _=>none
def Jz:Option D->Option ze
 | some (.zI .str s)=>some s
 | _=>none
def asBool:Option D->Option Bool
 | some (.zI .bool b)=>some b
 | _=>none
def fX(t:Nat):Option Nat:=match c.P.underlying t with | some (.slice e)=>some e | _=>none
def z8J(t:Nat):Option (Nat×Nat):=match c.P.underlying t with | some (.array n e)=>some (n,e) | _=>none
def VO(t:Nat)(x:Option D)(i:Int):bz:=match z8J c t,x with
 | some (n,et),some (.qR τ y)=>match D2 τ with
  | some (e,m)=>bif k9 c et e&&Nat.beq n m then .val (.zL (0<=i/\i<(n:Int)) (.ret (some (.qR e (pW e τ y i.toNat)))))else bad
  | none=>bad
 | _,_=>bad
def pU(t:Nat)(x i:Option D):bz:=match fX c t,asInt i with
 | none,some (_,i)=>VO c t x i
 | some et,some (_,i)=>match x with
  | some (.zI (.sl e) l)=>bif k9 c et e then .val (.zL (0<=i/\i<(List.length l:Int)) (.ret (some (.qR e (List.getD l i.toNat (zk e))))))else bad
  | some (.tight e l _)=>bif k9 c et e then .val (.zL (0<=i/\i<(List.length l:Int)) (.ret (some (.qR e (List.getD l i.toNat (zk e))))))else bad
  | some (.ms b qA e off len)=>bif k9 c et e then .val (.zL (0<=i/\i<(len:Int)) (.ret (some (.uo b qA e (off+i.toNat) 0))))else bad
  | _=>bad
 | _,_=>bad
def Hh(t:Nat)(x i:Option D):bz:=match asInt i,Jz x,c.P.underlying t with
 | some (_,i),some s,some .string=>.val (.zL (0<=i/\i<(List.length s:Int)) (.ret (some (.zI (.int .u8) ((List.getD s i.toNat 0).toNat:Int)))))
 | _,_,_=>bad
def NT(d:Int):Option (Option D)->Option Int
 | none=>some d
 | some x=>match asInt x with | some (_,i)=>some i | none=>none
def vw(l h:Int)(s:ze):ze:=(s.take h.toNat).drop l.toNat
def va{e:Ty}(l h:Int)(s:List (den e)):List (den e):=(s.take h.toNat).drop l.toNat
def GV(t:Nat)(x:Option D)(lo hi mx:Option (Option D)):bz:=match x with
 | some (.zI .str s)=>match c.P.underlying t,mx,NT 0 lo,NT (List.length s) hi with
  | some .string,none,some l,some h=>.val (.zL (0<=l/\l<=h/\h<=(List.length s:Int)) (.ret (some (.zI .str (vw l h s)))))
  | _,_,_,_=>bad
 | some (.zI (.sl e) s)=>match fX c t,NT 0 lo,NT (List.length s) hi with
  | some et,some l,some h=>bif k9 c et e then match mx with
    | none=>.val (.zL (0<=l/\l<=h/\h<=(List.length s:Int)) (.ret (some (.zI (.sl e) (va l h s)))))
    | some m=>match asInt m with
     | some (_,m)=>bif hi.isSome then .val (.zL (0<=l/\l<=h/\h=m/\h<=(List.length s:Int)) (.ret (some (.tight e (va l h s) false))))else bad
     | none=>bad
   else bad
  | _,_,_=>bad
 | some (.tight e s _)=>match fX c t,mx,NT 0 lo,NT (List.length s) hi with
  | some et,none,some l,some h=>bif k9 c et e then .val (.zL (0<=l/\l<=h/\h<=(List.length s:Int)) (.ret (some (.zI (.sl e) (va l h s)))))else bad
  | _,_,_,_=>bad
 | some (.ms b qA e off len)=>match fX c t,mx,NT 0 lo,NT len hi with
  | some et,none,some l,some h=>bif k9 c et e then .val (.zL (0<=l/\l<=h/\h<=(len:Int)) (.ret (some (.ms b qA e (off+l.toNat) (h.toNat-l.toNat)))))else bad
  | _,_,_,_=>bad
 | _=>bad
def ib(k:IntKind)(n:Int):bz:=val (.zI (.int k) n)
def bb(b:Bool):bz:=val (.zI .bool b)
def pH(k:IntKind)(f:BitVec k.bits->BitVec k.bits->BitVec k.bits)(x y:Int):Int:=k.wrap (f (BitVec.ofInt k.bits x) (BitVec.ofInt k.bits y)).toNat
def yt(k:IntKind)(a b:Int):Int:=k.wrap (a*2 ^ (min b.toNat k.bits))
def wH(k:IntKind)(a b:Int):Int:=Int.fdiv a (2 ^ (min b.toNat k.bits))
def Fx(op:BinOp)(k:IntKind)(a b:Int):bz:=match op with
 | .add=>ib k (k.wrap (a+b))
 | .sub=>ib k (k.wrap (a-b))
 | .mul=>ib k (k.wrap (a*b))
 | .quo=>.val (.zL (b≠0) (.ret (some (.zI (.int k) (k.wrap (a.tdiv b))))))
 | .rem=>.val (.zL (b≠0) (.ret (some (.zI (.int k) (a.tmod b)))))
 | .and=>ib k (pH k (· &&& ·) a b)
 | .or=>ib k (pH k (· ||| ·) a b)
 | .xor=>ib k (pH k (· ^^^ ·) a b)
 | .eql=>bb (a==b)
 | .neq=>bb (a != b)
 | .lss=>bb (decide (a<b))
 | .leq=>bb (decide (a<=b))
 | .gtr=>bb (decide (b<a))
 | .geq=>bb (decide (b<=a))
 | _=>bad
def zh(a b:ze):Bool:=a==b
def strLt(a b:ze):Bool:=Op.bytesLess a b
def cat(a b:ze):ze:=a++b
def F4(op:BinOp)(a b:ze):bz:=match op with
 | .add=>.val (.zL (a.length+b.length<=4611686018427387904) (.ret (some (.zI .str (cat a b)))))
 | .eql=>bb (zh a b)
 | .neq=>bb (!zh a b)
 | .lss=>bb (strLt a b)
 | .leq=>bb (strLt a b||zh a b)
 | .gtr=>bb (!(strLt a b||zh a b))
 | .geq=>bb (!strLt a b)
 | _=>bad
def RG(op:BinOp)(a b:Bool):bz:=match op with
 | .eql=>bb (a==b)
 | .neq=>bb (!(a==b))
 | _=>bad
def V3:BinOp->Bool
 | .shl | .shr=>true
 | _=>false
def z4L(a:Ty)(t:Nat):Bool:=match a,c.P.underlying t with
 | .int k,some (.int k')=>decide (k=k')
 | .bool,some .bool=>true
 | .str,some .string=>true
 | _,_=>false
def Zy:Ty->Nat->List Field->Bool
 | .nil,_,[]=>true
 | .cons a r,off,f::fs=>decide (f.name ≠ "_")&&(Nat.beq f.offset off&&(z4L c a f.type&&Zy r (off+1) fs))
 | _,_,_=>false
def eqT:(τ:Ty)->den τ->den τ->Bool
 | .int _,(a:Int),(b:Int)=>a==b
 | .bool,(a:Bool),(b:Bool)=>a==b
 | .str,(a:ze),(b:ze)=>zh a b
 | .cons a r,(x:den a×den r),(y:den a×den r)=>eqT a x.1 y.1&&eqT r x.2 y.2
 | _,_,_=>true
def Je(τ:Ty)(t:Nat):Bool:=match c.P.underlying t with
 | some (.struct fs)=>Zy c τ 0 fs.toList&&(!(c.P.stoodInHeld t) && !(c.P.eqGuardType c.P.depth t))
 | _=>false
def T0(op:BinOp)(t:Nat)(x y:Option D):bz:=match x,y with
 | some (.zI τ a),some (.zI σ b)=>match(wP b:Option (den τ))with
  | some b=>bif τ.isAgg&&Je c τ t then(match op with
   | .eql=>bb (eqT τ a b)
   | .neq=>bb (!eqT τ a b)
   | _=>bad)else bad
  | none=>bad
 | _,_=>bad
def EA(op:BinOp)(t:Nat)(x y:Option D):bz:=match asInt x,asInt y with
 | some (k,a),some (k',b)=>match op with
  | .shl=>.val (.zL (0<=b) (.ret (some (.zI (.int k) (yt k a b)))))
  | .shr=>.val (.zL (0<=b) (.ret (some (.zI (.int k) (wH k a b)))))
  | op=>bif decide (k=k')then Fx op k a b else bad
 | _,_=>match Jz x,Jz y with
  | some a,some b=>bif V3 op then bad else F4 op a b
  | _,_=>match c.P.underlying t,asBool x,asBool y with
   | some .bool,some a,some b=>RG op a b
   | _,_,_=>T0 c op t x y
def H0(op:BinOp)(t:Nat)(x:Option D):bz:=match c.P.underlying t with
 | some (.interface _)=>match op,x with
  | .eql,some .qV=>bb true
  | .eql,some (.iface _ _)=>bb false
  | .neq,some .qV=>bb false
  | .neq,some (.iface _ _)=>bb true
  | _,_=>bad
 | _=>bad
def mG(x:Option D)(at':Nat)(ok:Bool):bz:=match c.P.underlying at' with
 | some (.interface _)=>bad
 | none=>bad
 | some _=>match x with
  | some (.iface t d)=>bif Nat.beq t at'&&ok then val (.yq [d,.zI .bool true])else bad
  | _=>bad
def Eu(op:BinOp)(t:Nat)(p:Operand)(x y:Option D):bz:=match p with
 | .const .nilIface=>H0 c op t x
 | _=>EA c op t x y
def z0C(op:UnOp)(x:Option D):bz:=match op with
 | .neg=>match asInt x with | some (k,n)=>ib k (k.wrap (0-n)) | none=>bad
 | .not=>match asBool x with | some b=>bb (!b) | none=>bad
 | .xor=>match asInt x with | some (k,n)=>ib k (pH k (· ^^^ ·) (if k.signed then -1 else k.max) n) | none=>bad
 | _=>bad
def byteOf(n:Int):UInt8:=UInt8.ofNat n.toNat
def C7(e:Ty):D->Option (List (den e))
 | .zI σ y=>wP (a:=σ) (b:=.sl e) y
 | .tight e' y _=>wP (a:=.sl e') (b:=.sl e) y
 | .xr=>some []
 | _=>none
def qG(l:List Int):ze:=l.map byteOf
def Xs(e:Nat)(x:Option D):bz:=match c.P.underlying e,x with
 | some (.int .u8),some d=>.rd λst=>(nS st d).bind λy=>match C7 (.int .u8) y with
  | some l=>.ret (some (.zI .str (qG l)))
  | none=>.fail
 | _,_=>bad
def convertOp(s t:Nat)(x:Option D):bz:=match c.P.underlying s,c.P.underlying t with
 | some (.slice e),some .string=>Xs c e x
 | some (.int _),some (.int k)=>match asInt x with | some (_,n)=>ib k (k.wrap n) | none=>bad
 | some .string,some .string=>match Jz x with | some s=>val (.zI .str s) | none=>bad
 | _,_=>bad
def Pl(t:Nat)(x:Option D):bz:=match c.P.underlying t with
 | some (.slice _)=>match x with
  | some (.zI (.sl _) l)=>ib .i64 (List.length l)
  | some (.tight _ l _)=>ib .i64 (List.length l)
  | some .xr=>ib .i64 0
  | some (.ms _ _ _ _ len)=>ib .i64 (len:Nat)
  | _=>bad
 | some .string=>match Jz x with
  | some s=>ib .i64 (List.length s)
  | none=>bad
 | _=>bad
def ex(e:Ty){e':Ty}(xs:List (den e')):Option (List (den e)):=wP (a:=.sl e') (b:=.sl e) xs
def iZ(e:Ty)(l ys:List (den e))(bytes:Nat)(st:St):T (Option D×St) :=
 .zL ((l.length+ys.length)*bytes<=140737488355328) (.ret (some (.ms st.length (l.length+ys.length) e 0 (l.length+ys.length)),st++[.arr (l.length+ys.length) e (l++ys)]))
def jD(e:Ty)(s:D)(ys:List (den e))(ne:Bool)(bytes:Nat)(st:St):T (Option D×St):=match s with
 | .xr=>bif ne then iZ e [] ys bytes st else .ite ys.isEmpty (.ret (some s,st)) (iZ e [] ys bytes st)
 | .tight e' l _=>match ex e l with
  | some l=>bif ne then iZ e l ys bytes st else .ite ys.isEmpty (.ret (some s,st)) (iZ e l ys bytes st)
  | none=>.fail
 | .ms b qA e' off len=>match st[b]? with
  | some (.arr jQ e'' xs)=>match ex e xs with
   | some xs=>bif decide (e'=e)then .zL (qA=jQ/\off=0/\len=xs.length/\(xs.length+ys.length)*bytes<=140737488355328)
     (.ret (some (.ms b (qA+ys.length) e 0 (len+ys.length)),st.set b (.arr (qA+ys.length) e (xs++ys))))else .fail
   | none=>.fail
  | _=>.fail
 | _=>.fail
def zeroOf(et:Nat)(e:Ty):Option (den e):=match Wt c et with | some z=>fp e z | none=>none
def QJ(t:Nat)(s x:Option D):bz:=match fX c t with
 | none=>bad
 | some et=>match B9 c 20 et,ng c et with
  | some e,some bytes=>bif k9 c et e&&Nat.blt 0 e.size&&Nat.blt 0 bytes&&(zeroOf c et e).isSome then match s,x with
    | some s,some x=>.wr λst=>(nS st x).bind λx=>match x with
     | .zI _ y=>match(wP y:Option (den (.sl e)))with
      | some ys=>jD e s ys false bytes st
      | none=>.fail
     | .tight _ y ne=>match ex e y with
      | some ys=>jD e s ys ne bytes st
      | none=>.fail
     | .xr=>jD e s [] false bytes st
     | _=>.fail
    | _,_=>bad
   else bad
  | _,_=>bad
def bytesOf(s:ze):List Int:=s.map λb=>((b.toNat:Nat):Int)
def rS(t t':Nat)(s x:Option D):bz:=match fX c t with
 | none=>bad
 | some et=>match B9 c 20 et,ng c et,c.P.underlying t' with
  | some (.int .u8),some bytes,some .string=>bif k9 c et (.int .u8)&&Nat.blt 0 bytes&&(zeroOf c et (.int .u8)).isSome then match s,x with
    | some s,some (.zI .str l)=>.wr λst=>jD (.int .u8) s (bytesOf l) false bytes st
    | _,_=>bad
   else bad
  | _,_,_=>bad
def Fy(t:Nat)(n m:Option D):bz:=match fX c t,asInt n,asInt m with
 | some et,some (_,n),some (_,m)=>match B9 c 20 et,ng c et with
  | some e,some bytes=>match zeroOf c et e with
   | some z=>bif k9 c et e&&Nat.blt 0 e.size then
     .wr λst=>.zL (0<=n/\n<=m/\m*bytes<=140737488355328/\m<=140737488355328) (.ret (some (.ms st.length n.toNat e 0 n.toNat),st++[.arr n.toNat e (List.replicate n.toNat z)]))
    else bad
   | none=>bad
  | _,_=>bad
 | _,_,_=>bad
def YQ(e:Ty):Nat->List (Nat×Option D)->Option (List (den e))
 | _,[]=>some []
 | i,(j,some d)::r=>bif Nat.beq i j then match fp e d,YQ e (i+1) r with
   | some x,some l=>some (x::l)
   | _,_=>none
  else none
 | _,_=>none
def mM(t n:Nat)(ps:List (Nat×Option D)):bz:=match fX c t with
 | none=>bad
 | some et=>match B9 c 20 et with
  | some e=>bif k9 c et e&&Nat.beq n ps.length&&Nat.ble n 1000&&Nat.ble e.size 100&&(zeroOf c et e).isSome then match YQ e 0 ps with
    | some l=>bif Nat.beq n 0&&Nat.blt 0 e.size then .wr λst=>.ret (some (.ms st.length 0 e 0 0),st++[.arr 0 e []])else val (.tight e l (!Nat.beq n 0))
    | none=>bad
   else bad
  | none=>bad
def dT(places:List (Nat×Nat)):List (Nat×Option D)->List D->Option (List D)
 | [],cells=>some cells
 | (i,some d)::r,cells=>match places[i]? with
  | some (off,n)=>bif !d.uM&&Nat.beq n (qh d).length&&Nat.ble (off+n) cells.length then
     dT places r (cells.take off++qh d++cells.drop (off+n))else none
  | none=>none
 | _,_=>none
def HY(t:Nat)(ps:List (Nat×Option D)):bz:=match c.P.underlying t with
 | some (.struct fs)=>match Wt c t,fs.toList.mapM (λf=>(c.P.info? f.type).map λi=>(f.offset,i.size))with
  | some (.agg z),some places=>match dT places ps z with
   | some l=>val (.agg l)
   | none=>bad
  | _,_=>bad
 | some (.array k e)=>match Wt c t,c.P.info? e with
  | some (.agg z),some ie=>match dT ((List.range k).map λi=>(i*ie.size,ie.size)) ps z with
   | some l=>val (.agg l)
   | none=>bad
  | _,_=>bad
 | _=>bad
def Xq(x:Option D)(i:Nat):bz:=match x with
 | some (.yq vs)=>z2A vs[i]?
 | _=>bad
def yh:List D->D
 | [d]=>d
 | ds=>.yq ds
def Ty.scalar:Ty->Bool
 | .int _ | .bool | .str=>true
 | .cons a b=>a.scalar&&b.scalar
 | .nil=>true
 | _=>false
def s7:D->Bool
 | .zI τ _=>τ.scalar
 | _=>false
def nV(st:St)(τ:Ty):D->T D
 | .qR _ x=>match(wP x:Option (den τ))with | some y=>.ret (.qR τ y) | none=>.fail
 | .ptr b off=>match st[b]? with
  | some (.var d)=>match bif Nat.beq off 0 then fp τ d else none with | some y=>.ret (.qR τ y) | none=>.fail
  | _=>.fail
 | _=>.fail
def r8(st:St):X6->D->T D
 | .im τ,d=>(QK st τ d).bind λx=>.ret (.zI τ x)
 | .rp τ,d=>nV st τ d
def bO(st:St):List X6->List D->T (List D)
 | [],[]=>.ret []
 | p::r,d::ds=>(r8 st p d).bind λx=>(bO st r ds).bind λl=>.ret (x::l)
 | _,_=>.fail
def Ch(st:St):Za->D->T D
 | .ty τ,d=>(QK st τ d).bind λx=>.ret (.zI τ x)
 | .rp τ,d=>nV st τ d
 | .qW f caps,.qW f' l=>bif Nat.beq f f' then(bO st caps l).bind λl=>.ret (.qW f l)else .fail
 | _,_=>.fail
def nM(st:St):List Za->List D->T (List D)
 | [],[]=>.ret []
 | p::r,d::ds=>(Ch st p d).bind λx=>(nM st r ds).bind λl=>.ret (x::l)
 | _,_=>.fail
def z8O:D->Bool | .ptr .. => true | _=>false
def UT:D->Bool
 | .agg cs=>cs.any YT
 | .qW _ l=>l.any λd=>YT d||z8O d
 | .ptr .. => true
 | d=>YT d
def z0F(r:GC×St):T (Option D):=match r with
 | (.ret ds,[])=>.ret (some (yh ds))
 | _=>.fail
def se(r:GC×St):T (Option D):=match r with
 | (.ret ds,[])=>bif ds.all s7 then .ret (some (yh ds))else .fail
 | _=>.fail
def hH(g:Nat)(s:Sig)(args:List D):bz :=
 bif !(args.any UT)then .val ((nM [] s.params args).bind λl=>(c.fn g l []).bind z0F)
 else .rd λst=>(nM st s.params args).bind λl=>(c.fn g l []).bind se
def rk(g:Nat)(args:List D):bz:=.wr λst=>(c.fn g args st).bind λr=>match r.1 with
 | .ret ds=>.ret (some (yh ds),r.2)
 | .kB _=>.fail
def yo(g:Nat):Nat:=bif Nat.ble 1000000 g then g % 1000000 else g
def jj{α:Type}(g:Nat)(l caps:List α):List α:=bif Nat.ble 1000000 g then caps++l else l++caps
def cO(f:Option D)(args:List (Option D)):bz:=match f,uy args with
 | some (.qW g caps),some l=>match c.sig (yo g) (jj g l caps)with
  | some s=>hH c (yo g) s (jj g l caps)
  | none=>rk c (yo g) (jj g l caps)
 | _,_=>bad
def H6(a b:Int):Int:=if b<a then b else a
def mP(a b:Int):Int:=if a<b then b else a
def UP(f:Int->Int->Int)(args:List (Option D)):bz:=match args with
 | [x,y]=>match asInt x,asInt y with
  | some (k,a),some (k',b)=>bif decide (k=k')then ib k (f a b)else bad
  | _,_=>bad
 | _=>bad
def kG{α:Type}(off len:Nat)(xs l:List α):List α:=xs.take off++l.take len++xs.drop (off+min len l.length)
def z0e(k:IntKind)(b qA off len:Nat)(l:List Int)(st:St):T (Option D×St):=match st[b]? with
 | some (.arr jQ e' xs)=>match ex (.int k) xs with
  | some xs=>.zL (qA=jQ/\off+len<=List.length xs) (.ret (some (.zI i64 ((min len l.length:Nat):Int)),st.set b (.arr jQ (.int k) (kG off len xs l))))
  | none=>.fail
 | _=>.fail
def Fc(t:Nat)(s x:Option D):bz:=match fX c t with
 | some et=>match c.P.underlying et,fP c et,s,x with
  | some (.int k),some 1,some (.ms b qA (.int k') off len),some d=>bif decide (k'=k)then .wr λst=>(nS st d).bind λy=>match C7 (.int k) y with
    | some l=>z0e k b qA off len l st
    | none=>.fail
   else bad
  | _,_,_,_=>bad
 | none=>bad
def lC(b:Builtin)(ts:List Nat)(args:List (Option D)):bz:=match b,ts,args with
 | .len,t::_,x::_=>Pl c t x
 | .append,[t,t'],[s,x]=>bif Nat.beq t t' then QJ c t s x else rS c t t' s x
 | .copy,[t,_],[s,x]=>Fc c t s x
 | .min,_,args=>UP H6 args
 | .max,_,args=>UP mP args
 | _,_,_=>bad
def uG(fr:Fr):Operand->Option D
 | .tmp t=>fr.get t
 | .const v=>Wo v
 | .global _=>none
 | .func f=>bif Nat.blt f 1000000 then some (.qW f [])else none
def tR(x:Option D):bz:=match x with
 | some (.ptr b o)=>val (.ptr b o)
 | some (.qR τ x)=>val (.qR τ x)
 | some (.uo b v e i o)=>val (.uo b v e i o)
 | some (.qW f l)=>val (.qW f l)
 | _=>bad
def Ig(x a b:Option D):bz:=match asBool x with
 | some x=>.val (.ite x (.ret a) (.ret b))
 | none=>bad
def r7(t:Nat)(x:Option D):bz:=match c.P.underlying t with
 | some (.interface _) | none=>bad
 | some _=>match x with | some d=>val (.iface t d) | none=>bad
def Pk(x:Option D):bz:=match x with
 | some d=>bif d.uM||d.typed.isSome then bad else .wr λst=>.ret (some (.ptr st.length 0),st++[.var d])
 | none=>bad
def RM(t:Nat)(x:Option D):bz:=match x with
 | some (.zI τ x)=>val (.qR τ x)
 | some d=>match B9 c 20 t with
  | some τ=>match fp τ d with | some x=>val (.qR τ x) | none=>bad
  | none=>bad
 | none=>bad
def z9N:Option Nat->Bool
 | some s=>c.ro s
 | none=>false
def RB(t:Nat)(dst:Option Nat)(x:Option D):bz:=bif z9N c dst then RM c t x else Pk x
def nE(t:Nat):bz:=match Wt c t with
 | some d=>.wr λst=>.ret (some (.ptr st.length 0),st++[.var d])
 | none=>bad
def qF(ρ:Operand->Option D)(o:Oper):bz:=match o.op with
 | .move x | .assign x=>.val (.ret (ρ x))
 | .pick x a b=>Ig (ρ x) (ρ a) (ρ b)
 | .alloc t=>nE c t
 | .box t x=>RB c t o.dst (ρ x)
 | .load t a=>Uf c t (ρ a)
 | .store t a v=>Vj c t (ρ a) (ρ v)
 | .nilCheck x=>tR (ρ x)
 | .binOp op t x y _=>Eu c op t y (ρ x) (ρ y)
 | .typeAssert x _ t ok=>mG c (ρ x) t ok
 | .unOp op _ x=>z0C op (ρ x)
 | .convert s t x=>convertOp c s t (ρ x)
 | .makeInterface t x=>r7 c t (ρ x)
 | .makeFunc (.func f) first cap=>bif Nat.beq first.size 0&&Nat.blt f 1000000 then match uy (cap.toList.map ρ)with | some l=>val (.qW f l) | none=>bad
   else bif Nat.beq cap.size 0&&Nat.blt f 1000000 then match uy (first.toList.map ρ)with | some l=>val (.qW (f+1000000) l) | none=>bad else bad
 | .makeSlice t l m=>Fy c t (ρ l) (ρ m)
 | .slice t x lo hi mx=>GV c t (ρ x) (lo.map ρ) (hi.map ρ) (mx.map ρ)
 | .fieldAddr s x f=>pe c s f (ρ x)
 | .field s x f=>Gr c s f (ρ x)
 | .indexAddr t x i=>pU c t (ρ x) (ρ i)
 | .index t x i=>Hh c t (ρ x) (ρ i)
 | .extract x i=>Xq (ρ x) i
 | .build t ps=>HY c t (ps.toList.map λp=>(p.1,ρ p.2))
 | .buildSlice t n ps=>mM c t n (ps.toList.map λp=>(p.1,ρ p.2))
 | .call cl=>match cl.callee with
  | .builtin b=>lC c b cl.argTypes.toList (cl.args.toList.map ρ)
  | .value f=>cO c (ρ f) (cl.args.toList.map ρ)
  | .invoke _ _=>bad
 | _=>bad
def zH:bz->St->T (Option D×St)
 | .val t,st=>t.bind λd=>.ret (d,st)
 | .rd k,st=>(k st).bind λd=>.ret (d,st)
 | .wr k,st=>k st
end ops
end Go.AM
namespace Go.AM
def bz.kind:bz->Nat
 | .val _=>0
 | .rd _=>1
 | .wr _=>2
def uB(ops:Array Oper)(j:Nat):Option Nat:=match ops[j]? with | some o=>o.dst | none=>none
def Nx:D:=.yq []
def vS(n:Nat):Option Nat->Bool
 | some t=>Nat.blt t n
 | none=>true
section
variable (c:Ctx)
variable [su]
def cE(kn:Kn):Operand->Option Bool
 | .tmp t=>kn.get t
 | .const (.bool b)=>some b
 | _=>none
def Kf(kn:Kn):Op->Option Bool
 | .move x | .assign x=>cE kn x
 | .pick x a b=>match cE kn x with
  | some true=>cE kn a
  | some false=>cE kn b
  | none=>none
 | _=>none
def nT(kn:Kn)(fr:Fr)(o:Oper):bz:=match o.op with
 | .pick x a b=>match cE kn x with
  | some true=>.val (.ret (uG fr a))
  | some false=>.val (.ret (uG fr b))
  | none=>qF c (uG fr) o
 | _=>qF c (uG fr) o
def KD(kn:Kn)(dst:Option Nat)(b:Option Bool):Kn:=match dst with | some t=>(t,b)::kn | none=>kn
inductive RK where
 | z (k:Nat) | rd (b:Nat) | wr (free:List Nat) | up (b:Nat)
def RK.base:RK->Nat
 | .z k=>k
 | .rd _=>1
 | .wr _=>2
 | .up _=>2
def others(n:Nat)(l:List Nat):List Nat:=(List.range n).filter λb => !(l.any (Nat.beq b))
def z8e(d:Option D):Option Nat:=match d with
 | some d=>match d with
  | .ptr b _=>some b
  | .uo b _ _ _ _=>some b
  | _=>none
 | none=>none
def IF(bi:Builtin)(l:List (Option D)):RK:=match bi with
 | .append=>match l with | [some (.ms b _ _ _ _),some x]=>bif YT x then .z 2 else .up b | _=>.z 2
 | _=>.z 2
def w7(ρ:Operand->Option D)(st:St)(o:Oper):RK:=match(qF c ρ o).kind with
 | 1=>match o.op with
  | .load _ a=>match z8e (ρ a)with | some b=>.rd b | none=>.z 1
  | _=>.z 1
 | 2=>match o.op with
  | .alloc _=>.wr (others st.length [])
  | .store _ a _=>match z8e (ρ a)with | some b=>.up b | none=>.z 2
  | .call cl=>match cl.callee with
   | .value f=>match ρ f,uy (cl.args.toList.map ρ)with | some (.qW g caps),some l=>.wr (c.free (yo g) (jj g l caps) st) | _,_=>.z 2
   | .builtin bi=>IF bi (cl.args.toList.map ρ)
   | _=>.z 2
  | _=>.z 2
 | k=>.z k
structure du where
 fr:Fr
 kn:Kn
 st:St
 ks:List Nat      -- kinds of what has run,the last first
 bk:List RK
def hJ(n:Nat)(o:Oper)(s:du):T du :=
 bif vS n o.dst then
  let cl:=nT c s.kn s.fr o
  (zH cl s.st).bind λr=>.ret ⟨s.fr.put o.dst r.1,KD s.kn o.dst (Kf s.kn o.op),r.2,cl.kind::s.ks,w7 c (uG s.fr) s.st o::s.bk⟩
 else .fail
def jd(o:Oper)(s:du):du:=⟨s.fr.put o.dst (some Nx),KD s.kn o.dst none,s.st,0::s.ks,.z 0::s.bk⟩
def du.ba(s:du)(t:Nat)(b:Bool):du:={ s with kn:=(t,some b)::s.kn }
def stepG(n:Nat)(ops:Array Oper)(o:Oper)(s:du):T du:=match o.guard with
 | none=>hJ c n o s
 | some (j,want)=>match uB ops j with
  | none=>.fail
  | some t=>match s.kn.get t with
   | some b=>bif b==want then hJ c n o s else bif vS n o.dst then .ret (jd o s)else .fail
   | none=>match s.fr.get t with
    | some (.zI .bool x)=>bif vS n o.dst then
      .ite x (bif want then hJ c n o (s.ba t true)else .ret (jd o (s.ba t true)))
          (bif want then .ret (jd o (s.ba t false))else hJ c n o (s.ba t false))
     else .fail
    | some (.yq [])=>bif vS n o.dst then .ret (jd o s)else .fail
    | _=>.fail
def iO(n:Nat)(ops:Array Oper):List Oper->du->T du
 | [],s=>.ret s
 | o::l,s=>(stepG c n ops o s).bind λs'=>iO n ops l s'
def tmpsOf(ops:Array Oper)(o:Oper):List Nat :=
 (match o.dst with | some d=>[d] | none=>[]) ++
 (match o.guard with | some (j,_)=>(match uB ops j with | some s=>[s] | none=>[]) | none=>[]) ++
 o.op.operands.toList.filterMap λ| .tmp t=>some t | _=>none
def xc(l:List Oper):List Nat->List Nat
 | acc=>match l with
  | []=>acc
  | o::r=>xc r (acc++[o.after.toList.foldl (λs e=>bif Region.binds .any e then s ||| 2 ^ e.on ||| acc.getD e.on 0 else s) 0])
def ordered(bs:List Nat)(i j:Nat):Bool:=Nat.testBit (bs.getD j 0) i
def uw(k l:Nat):Bool:=(Nat.beq k 2 && !Nat.beq l 0)||(Nat.beq l 2 && !Nat.beq k 0)
def Fw{K:Type}(cl:K->K->Bool)(bs:List Nat)(xs:List (Nat×Option Nat×List Nat×K))(j:Nat)(dj:Option Nat)(tj:List Nat)(kj:K):Bool :=
 xs.all λx=>ordered bs x.1 j||(!(match x.2.1 with | some d=>tj.contains d | none=>false) && !(match dj with | some d=>x.2.2.1.contains d | none=>false) && !cl x.2.2.2 kj)
def mO{K:Type}(cl:K->K->Bool)(ops:Array Oper)(bs:List Nat):List Oper->List K->Nat->List (Nat×Option Nat×List Nat×K)->Bool
 | [],_,_,_=>true
 | o::l,k::ks,j,xs=>let tj:=tmpsOf ops o; Fw cl bs xs j o.dst tj k&&mO cl ops bs l ks (j+1) ((j,o.dst,tj,k)::xs)
 | _,_,_,_=>false
def gH:List Oper->Nat->Bool
 | [],_=>true
 | o::l,j=>o.after.toList.all (λe => !Region.binds .any e||Nat.blt e.on j)&&gH l (j+1)
def Mk(ops:Array Oper)(ks:List Nat):Bool :=
 let l:=ops.toList
 gH l 0&&mO uw ops (xc l []) l ks 0 []
def WI(o:Oper):Bool:=(match o.op with | .alloc _=>true | _=>false)&&o.guard.isNone&&o.dst.isSome
def Jl:List Oper->List Nat->List Nat
 | o::l,k::ks=>(bif WI o then 3 else k)::Jl l ks
 | _,_=>[]
def pL(k l:Nat):Bool:=bif Nat.beq k 3&&Nat.beq l 3 then false else uw (bif Nat.beq k 3 then 2 else k) (bif Nat.beq l 3 then 2 else l)
def Vp:List Oper->Nat->List Nat
 | [],_=>[]
 | o::l,i=>bif WI o then i::Vp l (i+1)else Vp l (i+1)
def BW(bs al:List Nat)(n:Nat):Bool:=(List.range n).all λj => !(al.any λp=>ordered bs p j)||al.all λp=>ordered bs p j
def MB(ops:Array Oper)(ks:List Nat):Bool :=
 let l:=ops.toList
 gH l 0&&(ks.all λk=>Nat.ble k 2)&&mO pL ops (xc l []) l (Jl l ks) 0 []&&BW (xc l []) (Vp l 0) l.length
def uv:RK->RK->Bool
 | .rd b,.wr A => !(A.any (Nat.beq b))
 | .wr A,.rd b => !(A.any (Nat.beq b))
 | .rd b,.up a=>Nat.beq a b
 | .up a,.rd b=>Nat.beq a b
 | .up a,.up b=>Nat.beq a b
 | x,y=>uw x.base y.base
def Ly(ops:Array Oper)(ks:List RK):Bool :=
 let l:=ops.toList
 gH l 0&&mO uv ops (xc l []) l ks 0 []
def tf(ops:Array Oper)(ks:List Nat)(bk:List RK):Bool:=Mk ops ks||MB ops ks||Ly ops bk
def bG(n:Nat)(ops:Array Oper)(draw:Bool)(fr:Fr)(kn:Kn)(st:St):T du :=
 (iO c n ops ops.toList ⟨fr,kn,st,[],[]⟩).bind λs=>bif !draw||tf ops s.ks.reverse s.bk.reverse then .ret s else .fail
structure zeO where
 ex:Ex
 fr:Fr
 kn:Kn
 st:St
structure zgE where
 ex:Ex
 out:List (Nat×D)
 st:St
abbrev zbk:=Nat->Fr->St->T zgE
def z8h(l:List (Nat×D)):Fr:=l.map λp=>(p.1,some p.2)
def ev(n:Nat)(L:zbk):Code->Fr->Kn->St->T zeO
 | .skip,fr,kn,st=>.ret ⟨.normal,fr,kn,st⟩
 | .region _ ops draw,fr,kn,st=>(bG c n ops draw fr kn st).bind λs=>.ret ⟨.normal,s.fr,s.kn,s.st⟩
 | .seq a b,fr,kn,st=>(ev n L a fr kn st).bind λr=>match r.ex with
  | .normal=>ev n L b r.fr r.kn r.st
  | _=>.ret r
 | .cond x a b,fr,kn,st=>match cE kn x with
  | some true=>ev n L a fr kn st
  | some false=>ev n L b fr kn st
  | none=>match x with
   | .tmp t=>match fr.get t with
    | some (.zI .bool v)=>.ite v (ev n L a fr ((t,some true)::kn) st) (ev n L b fr ((t,some false)::kn) st)
    | _=>.fail
   | _=>.fail
 | .block id (.loop _),fr,_,st=>(L id fr st).bind λr=>match r.ex with
   | .exit id'=>bif Nat.beq id' id then .ret ⟨.normal,z8h r.out,[],r.st⟩else .ret ⟨.exit id',z8h r.out,[],r.st⟩
   | .normal=>.fail
   | x=>.ret ⟨x,z8h r.out,[],r.st⟩
 | .block id a,fr,kn,st=>(ev n L a fr kn st).bind λr=>match r.ex with
  | .exit id'=>bif Nat.beq id' id then .ret { r with ex:=.normal } else .ret r
  | _=>.ret r
 | .exit id,fr,kn,st=>.ret ⟨.exit id,fr,kn,st⟩
 | .ret,fr,kn,st=>.ret ⟨.ret,fr,kn,st⟩
 | _,_,_,_=>.fail
def wm:List D->Nat->Fr
 | [],_=>[]
 | d::r,i=>(i,some d)::wm r (i+1)
def bh(fr:Fr)(st:St):List ResultVar->T (List D)
 | []=>.ret []
 | .tmp t::r=>match fr.get t with
  | some d=>(bh fr st r).bind λl=>.ret (d::l)
  | none=>.fail
 | .cell a t::r=>match fr.get a with
  | some (.ptr b off)=>match st[b]? with
   | some (.var d)=>match DZ c t d off with
    | some x=>(bh fr st r).bind λl=>.ret (x::l)
    | none=>.fail
   | _=>.fail
  | _=>.fail
def vN(n:Nat):D->Bool
 | .ptr b _=>Nat.blt b n
 | .kJ b _=>Nat.blt b n
 | .uo b .. => Nat.blt b n
 | .ms b .. => Nat.blt b n
 | .qW .. | .agg _ | .yq _ | .iface .. => false
 | _=>true
def gC(n:Nat):D->Bool
 | .qW _ l=>l.all (vN n)
 | .agg l=>l.all (vN n)
 | .iface _ d=>vN n d
 | d=>vN n d
def Gn(n:Nat):kA->Bool
 | .var d=>gC n d
 | _=>true
end
end Go.AM
namespace Go.AM
open Go.RowKit
inductive Rc(w:World)(ok:Nat->Prop):(τ:Ty)->den τ->List Value->Prop
 | int (k:IntKind) (n:Int):Rc w ok (.int k) n [.int k n]
 | bool (b:Bool):Rc w ok .bool b [.bool b]
 | str (s:ze):Rc w ok .str s [.string ⟨s.toArray⟩]
 | fO (e:Ty) (a:Option Addr):Rc w ok (.sl e) ([]:List (den e)) [.slice a 0 0]
 | sl (e:Ty) (l:List (den e)) (blk off cap:Nat) (f:Nat->List Value) (wg:ok blk) (vc:l.length<=cap)
   (h:∀ i (hi:i<l.length),Rc w ok e l[i] (f i))
   (hc:∀ i,i<l.length->∀ j v,(f i)[j]? = some v->w.cell? ⟨blk,off+i*e.size+j,none⟩=some v) :
   Rc w ok (.sl e) l [.slice (some ⟨blk,off,none⟩) l.length cap]
 | nil:Rc w ok .nil () []
 | cons (a b:Ty) (x:den a) (y:den b) (c1 c2:List Value) (h1:Rc w ok a x c1) (h2:Rc w ok b y c2):Rc w ok (.cons a b) (x,y) (c1++c2)
 | expr (k:Int) (n:den KO) (s:ze) (l:List Expr) (cs:List Value) (h:Rc w ok Qj (k,n,s,l,()) cs):Rc w ok .expr (.mk k n s l) cs
def I2(w w':World)(ok Wa:Nat->Prop):Prop:=∀ k,ok k->Wa k/\w'.heap[k]? = w.heap[k]?
theorem bn{w w':World}{a:Addr}(h:w'.heap[a.block]? = w.heap[a.block]?):w'.cell? a=w.cell? a:=by simp[World.cell?,h]
section
variable {w w':World} {ok Wa:Nat->Prop}
theorem Rc.mono{τ:Ty}{x:den τ}{cs:List Value}(hs:I2 w w' ok Wa)(h:Rc w ok τ x cs):Rc w' Wa τ x cs:=by
 induction h with
 | int k n=>exact .int k n
 | bool b=>exact .bool b
 | str s=>exact .str s
 | fO e a=>exact .fO e a
 | sl e l blk off cap f wg vc h hc ih=>exact .sl e l blk off cap f (hs _ wg).1 vc ih λi hi j v hv=>by rw[bn (hs _ wg).2]; exact hc i hi j v hv
 | nil=>exact .nil
 | cons a b x y c1 c2 h1 h2 i1 i2=>exact .cons a b x y c1 c2 i1 i2
 | expr k n s l cs h ih=>exact .expr k n s l cs ih
theorem Rc.len{τ:Ty}{x:den τ}{cs:List Value}(h:Rc w ok τ x cs):cs.length=τ.size:=by
 induction h with
 | cons a b x y c1 c2 h1 h2 i1 i2=>simp[Ty.size,i1,i2]
 | expr k n s l cs h ih=>simpa[Ty.size]using ih
 | _=>rfl
theorem Rc.one{τ:Ty}{x:den τ}{cs:List Value}(h:Rc w ok τ x cs):∀ v∈cs,v.oneCell'=true:=by
 induction h with
 | cons a b x y c1 c2 h1 h2 i1 i2=>grind
 | expr k n s l cs h ih=>exact ih
 | _=>intro v hv; simp at hv; try (subst hv; rfl)
theorem Rc.ym{k:IntKind}{n:Int}{cs:List Value}(h:Rc w ok (.int k) n cs):cs=[.int k n]:=by cases h; rfl
theorem Rc.jL{n:Bool}{cs:List Value}(h:Rc w ok .bool n cs):cs=[.bool n]:=by cases h; rfl
theorem Rc.wC{n:ze}{cs:List Value}(h:Rc w ok .str n cs):cs=[.string ⟨n.toArray⟩]:=by cases h; rfl
theorem Rc.cons_inv{a b:Ty}{x:den (.cons a b)}{cs:List Value}(h:Rc w ok (.cons a b) x cs):∃ c1 c2,cs=c1++c2/\Rc w ok a x.1 c1/\Rc w ok b x.2 c2:=by
 cases h with | cons _ _ x y c1 c2 h1 h2=>exact⟨c1,c2,rfl,h1,h2⟩
theorem Rc.qg{x:den .nil}{cs:List Value}(h:Rc w ok .nil x cs):cs=[]:=by cases h; rfl
theorem Rc.Dy{x:Expr}{cs:List Value}(h:Rc w ok .expr x cs):Rc w ok Qj x.OJ cs:=by cases h with | expr k n s l cs h=>exact h
theorem Rc.Xf{e:Ty}{l:List (den e)}{cs:List Value}(h:Rc w ok (.sl e) l cs):(l=[]/\∃ a,cs=[.slice a 0 0]) \/
  ∃ (blk off cap:Nat) (f:Nat->List Value),cs=[.slice (some ⟨blk,off,none⟩) l.length cap]/\ok blk/\l.length<=cap/\(∀ i (hi:i<l.length),Rc w ok e l[i] (f i)) /\
   (∀ i,i<l.length->∀ j v,(f i)[j]? = some v->w.cell? ⟨blk,off+i*e.size+j,none⟩=some v):=by
 cases h with
 | fO _ a=>simp
 | sl _ _ blk off cap f wg vc h hc=>exact .inr ⟨blk,off,cap,f,rfl,wg,vc,h,hc⟩
end
def pk(τ:Ty)(cs:List Value):Value:=if τ.isAgg then .agg cs.toArray else cs.headD undef
structure KS where
 w:World
 ok:Nat->Prop
 ph:List (Option (Nat×Nat))
 st:St
def IL(ph:List (Option (Nat×Nat)))(b zgN:Nat)(e:Ty)(off len:Nat)(v:Value):Prop :=
 off+len<=zgN/\((len=0/\off=0/\v=.slice none 0 0/\ph[b]? = some none) \/
  ∃ (blk n o cap:Nat),ph[b]? = some (some (blk,n))/\v=.slice (some ⟨blk,o,none⟩) len cap/\len<=cap/\(off+cap)*e.size<=n/\(cap=0\/o=off*e.size))
def Old(st:St)(b qA:Nat):Prop:=st[b]? = some .dead\/∃ (v0:Nat) (e0:Ty) (tq:List (den e0)),st[b]? = some (.arr v0 e0 tq)/\qA<=v0
def D.one:D->Bool
 | .zI τ _ => !τ.isAgg
 | .agg _ | .yq _=>false
 | _=>true
def o7(f:Nat)(vs:List Value):Value:=bif Nat.ble 1000000 f then .func (.func (f % 1000000)) vs.toArray #[]else .func (.func f) #[] vs.toArray
theorem Hu{f:Nat}(h:Nat.blt f 1000000=true)(vs:List Value):o7 f vs=.func (.func f) #[] vs.toArray:=by
 have:Nat.ble 1000000 f=false:=by
  cases hb:Nat.ble 1000000 f with
  | false=>rfl
  | true=>have h1:=Nat.le_of_ble_eq_true hb; have h2:=Nat.le_of_ble_eq_true h; omega
 unfold o7; rw[this]; rfl
theorem EE{f:Nat}(h:Nat.blt f 1000000=true)(vs:List Value):o7 (f+1000000) vs=.func (.func f) vs.toArray #[]:=by
 have h1:Nat.ble 1000000 (f+1000000)=true:=Nat.ble_eq_true_of_le (by omega)
 have h2:=Nat.le_of_ble_eq_true h
 have h3:(f+1000000) % 1000000=f:=by omega
 unfold o7; rw[h1,h3]; rfl
theorem Jb(f:Nat)(vs:List Value):(o7 f vs).cells.toList=[o7 f vs]:=by
 unfold o7; cases Nat.ble 1000000 f<;>rfl
theorem R2(f:Nat)(vs:List Value):(o7 f vs).oneCell'=true:=by
 unfold o7; cases Nat.ble 1000000 f<;>rfl
theorem Jc(f:Nat)(vs:List Value):∃ g a b,o7 f vs=.func (.func g) a b:=by
 unfold o7; cases Nat.ble 1000000 f<;>exact⟨_,_,_,rfl⟩
inductive RD(κ:KS):D->Value->Prop
 | zI (τ:Ty) (x:den τ) (cs:List Value) (h:Rc κ.w κ.ok τ x cs):RD κ (.zI τ x) (pk τ cs)
 | xd (e:Ty) (a:Option Addr):RD κ (.tight e ([]:List (den e)) false) (.slice a 0 0)
 | tight (e:Ty) (l:List (den e)) (ne:Bool) (blk off:Nat) (f:Nat->List Value) (vM:ne=true->l≠[]) (wg:κ.ok blk)
   (h:∀ i (hi:i<l.length),Rc κ.w κ.ok e l[i] (f i))
   (hc:∀ i,i<l.length->∀ j v,(f i)[j]? = some v->κ.w.cell? ⟨blk,off+i*e.size+j,none⟩=some v) :
   RD κ (.tight e l ne) (.slice (some ⟨blk,off,none⟩) l.length l.length)
 | xr:RD κ .xr (.slice none 0 0)
 | yd:RD κ .yd (.pointer none)
 | qV:RD κ .qV .nilIface
 | vW:RD κ .vW .nilFunc
 | vV:RD κ .vV (.map none)
 | td (v:Value) (h:v.oneCell'=true):RD κ .td v
 | cA (T:Nat):RD κ (.cA T) (.pointer none)
 | cd (b T:Nat) (d:D) (hd:κ.st[b]? = some (.var d)):RD κ (.kJ b T) (.pointer none)
 | cB (b T blk n:Nat) (d:D) (hd:κ.st[b]? = some (.var d)) (h:κ.ph[b]? = some (some (blk,n))):RD κ (.kJ b T) (.pointer (some ⟨blk,0,none⟩))
 | ptr (b off blk n:Nat) (d:D) (hd:κ.st[b]? = some (.var d)) (h:κ.ph[b]? = some (some (blk,n))):RD κ (.ptr b off) (.pointer (some ⟨blk,off,none⟩))
 | qR (τ:Ty) (x:den τ) (cs:List Value) (blk off:Nat) (wg:κ.ok blk) (h:Rc κ.w κ.ok τ x cs)
   (hc:∀ j v,cs[j]? = some v->κ.w.cell? ⟨blk,off+j,none⟩=some v):RD κ (.qR τ x) (.pointer (some ⟨blk,off,none⟩))
 | uo (b qA:Nat) (e:Ty) (idx off blk o:Nat) (hb:Old κ.st b qA)
   (h:∀ xs:List (den e),κ.st[b]? = some (.arr qA e xs)->idx<xs.length->∃ n:Nat,κ.ph[b]? = some (some (blk,n))/\o=idx*e.size+off) :
   RD κ (.uo b qA e idx off) (.pointer (some ⟨blk,o,none⟩))
 | ms (b qA:Nat) (e:Ty) (off len cap:Nat) (a:Option Addr) (hb:Old κ.st b qA) (vc:len<=cap) (ha:a=none->cap=0) (pR:∀ p,a=some p->p.spot=none)
   (h:∀ xs:List (den e),κ.st[b]? = some (.arr qA e xs)->IL κ.ph b xs.length e off len (.slice a len cap)):RD κ (.ms b qA e off len) (.slice a len cap)
 | qW (f:Nat) (l:List D) (vs:List Value) (hl:l.length=vs.length) (h:∀ i (h1:i<l.length) (h2:i<vs.length),RD κ l[i] vs[i]):RD κ (.qW f l) (o7 f vs)
 | agg (l:List D) (vs:List Value) (hl:l.length=vs.length) (ho:∀ d∈l,d.one=true) (h:∀ i (h1:i<l.length) (h2:i<vs.length),RD κ l[i] vs[i]):RD κ (.agg l) (.agg vs.toArray)
 | yq (l:List D) (vs:List Value) (hl:l.length=vs.length) (h:∀ i (h1:i<l.length) (h2:i<vs.length),RD κ l[i] vs[i]):RD κ (.yq l) (.tuple vs.toArray)
 | iface (t:Nat) (d:D) (v:Value) (h:RD κ d v):RD κ (.iface t d) (.iface t v)
def qE(κ:KS)(l:List D)(vs:List Value):Prop:=l.length=vs.length/\∀ i (h1:i<l.length) (h2:i<vs.length),RD κ l[i] vs[i]
def eK[su](κ:KS)(b:Nat):kA->Prop
 | .dead=>True
 | .var d=>∃ (blk n:Nat) (cs:Array Value) (t:TypeId),κ.ph[b]? = some (some (blk,n))/\κ.w.heap[blk]? = some (.cells cs t (0,0))/\cs.size=n/\qE κ (qh d) cs.toList/\(∀ x∈qh d,x.one=true)/\∀ T,d.typed=some T->t=T
 | .arr _ e xs=>0<e.size/\((xs=[]/\κ.ph[b]? = some none) \/
   ∃ (blk n:Nat) (cs:Array Value) (t:TypeId),κ.ph[b]? = some (some (blk,n))/\κ.w.heap[blk]? = some (.cells cs t (0,0))/\cs.size=n/\xs.length*e.size<=n/\z5s e t /\
    ∃ f:Nat->List Value,∀ i (hi:i<xs.length),Rc κ.w κ.ok e xs[i] (f i)/\∀ j v,(f i)[j]? = some v->cs[i*e.size+j]? = some v)
class vX extends su where
 tab:List (Nat×(Obj->Prop))
def tJ[vX](w:World)(ok:Nat->Prop):Prop:=∀ x∈vX.tab,ok x.1/\∃ o,w.heap[x.1]? = some o/\x.2 o
theorem tJ.mono[vX]{w w':World}{ok Wa:Nat->Prop}(h:tJ w ok)(hs:I2 w w' ok Wa):tJ w' Wa:=λx hx=>by
 obtain⟨h1,o,h2,h3⟩:=h x hx
 obtain⟨g1,g2⟩:=hs _ h1
 grind
structure Inv[vX](κ:KS):Prop where
 len:κ.ph.length=κ.st.length
 yF:∀ k,κ.ok k->k<κ.w.heap.size
 apart:∀ (b blk n:Nat),κ.ph[b]? = some (some (blk,n))->blk<κ.w.heap.size/\¬ κ.ok blk
 inj:∀ (b b' blk n n':Nat),κ.ph[b]? = some (some (blk,n))->κ.ph[b']? = some (some (blk,n'))->b=b'
 blk:∀ (b:Nat) (x:kA),κ.st[b]? = some x->eK κ b x
 gl:tJ κ.w κ.ok
structure Ext(κ κ':KS):Prop where
 os:κ'.w.os=κ.w.os
 tape:κ'.w.tape=κ.w.tape
 output:κ'.w.output=κ.w.output
 size:κ.w.heap.size<=κ'.w.heap.size
 same:I2 κ.w κ'.w κ.ok κ'.ok
 fresh:∀ k,κ'.ok k->κ.ok k\/κ.w.heap.size<=k\/∃ b n:Nat,κ.ph[b]? = some (some (k,n))
 phs:∀ (b blk n:Nat),κ'.ph[b]? = some (some (blk,n))->κ.ph[b]? = some (some (blk,n))\/κ.w.heap.size<=blk
 var:∀ (b:Nat) (d:D),κ.st[b]? = some (.var d)->(∃ d',κ'.st[b]? = some (.var d'))/\κ'.ph[b]? = κ.ph[b]?
 arr:∀ (b v0:Nat) (e:Ty) (tq:List (den e)),κ.st[b]? = some (.arr v0 e tq)->κ'.st[b]? = some .dead \/
  ∃ (v1:Nat) (b8:List (den e)),κ'.st[b]? = some (.arr v1 e b8)/\v0<=v1/\(v0=v1->κ'.ph[b]? = κ.ph[b]? /\ tq.length=b8.length)
 dead:∀ (b:Nat),κ.st[b]? = some .dead->κ'.st[b]? = some .dead
 BX:κ.st.length<=κ'.st.length
 frame:∀ k,k<κ.w.heap.size->(∀ (b n:Nat),κ.ph[b]? ≠ some (some (k,n)))->κ'.w.heap[k]? = κ.w.heap[k]?
theorem Ext.refl(κ:KS):Ext κ κ :=
 ⟨rfl,rfl,rfl,Nat.le_refl _,λ_ h=>⟨h,rfl⟩,λ_ h=>.inl h,λ_ _ _ h=>.inl h,λ_ d h=>⟨⟨d,h⟩,rfl⟩,
  λ_ qA _ xs h=>.inr ⟨qA,xs,h,Nat.le_refl _,λ_=>⟨rfl,rfl⟩⟩,λ_ h=>h,Nat.le_refl _,λ_ _ _=>rfl⟩
theorem Ext.trans{a b c:KS}(h:Ext a b)(k:Ext b c):Ext a c:=by
 refine⟨k.os.trans h.os,k.tape.trans h.tape,k.output.trans h.output,Nat.le_trans h.size k.size,?_,?_,?_,?_,?_,λb hb=>k.dead b (h.dead b hb),Nat.le_trans h.BX k.BX,?_⟩
 ·intro i hi
  obtain⟨h1,h2⟩:=h.same i hi
  obtain⟨h3,h4⟩:=k.same i h1
  grind
 ·intro i hi
  rcases k.fresh i hi with h1 | h1 | ⟨b,n,h1⟩
  ·exact h.fresh i h1
  ·exact .inr (.inl (Nat.le_trans h.size h1))
  ·rcases h.phs b i n h1 with h2 | h2
   ·grind
   ·grind
 ·intro i blk n hi
  rcases k.phs i blk n hi with h1 | h1
  ·exact h.phs i blk n h1
  ·exact .inr (Nat.le_trans h.size h1)
 ·intro i d hi
  obtain⟨⟨d',kN⟩,hp⟩:=h.var i d hi
  obtain⟨zjf,hp'⟩:=k.var i d' kN
  grind
 ·intro i v0 e tq hi
  rcases h.arr i v0 e tq hi with h1 | ⟨v1,x1,h1,h2,h3⟩
  ·exact .inl (k.dead i h1)
  ·rcases k.arr i v1 e x1 h1 with g1 | ⟨v2,x2,g1,g2,g3⟩
   ·grind
   ·grind
 ·intro i hi hn
  refine(k.frame i (Nat.lt_of_lt_of_le hi h.size) λb n hb => ?_).trans (h.frame i hi hn)
  rcases h.phs b i n hb with h1 | h1
  ·grind
  ·omega
theorem Ext.old{κ κ':KS}(x:Ext κ κ'){b qA:Nat}(h:Old κ.st b qA):Old κ'.st b qA:=by
 rcases h with h | ⟨v0,e0,tq,h,hv⟩
 ·exact .inl (x.dead b h)
 ·rcases x.arr b v0 e0 tq h with h1 | ⟨v1,x1,h1,h2,_⟩
  ·exact .inl h1
  ·exact .inr ⟨v1,e0,x1,h1,Nat.le_trans hv h2⟩
theorem Ext.back{κ κ':KS}(x:Ext κ κ'){b qA:Nat}(h:Old κ.st b qA){e:Ty}{xs:List (den e)}(hx:κ'.st[b]? = some (.arr qA e xs)) :
  ∃ tq:List (den e),κ.st[b]? = some (.arr qA e tq)/\κ'.ph[b]? = κ.ph[b]? /\ tq.length=xs.length:=by
 rcases h with h | ⟨v0,e0,tq,h,hv⟩
 ·have:=x.dead b h; rw[hx]at this; cases this
 ·rcases x.arr b v0 e0 tq h with h1 | ⟨v1,x1,h1,h2,h3⟩
  ·grind
  ·grind
theorem RD.mono{κ κ':KS}(x:Ext κ κ'){d:D}{v:Value}(h:RD κ d v):RD κ' d v:=by
 induction h with
 | zI τ y cs h=>exact .zI τ y cs (h.mono x.same)
 | xd e a=>exact .xd e a
 | tight e l ne blk off f vM wg h hc=>exact .tight e l ne blk off f vM (x.same _ wg).1 (λi hi=>(h i hi).mono x.same) λi hi j v hv=>by rw[bn (x.same _ wg).2]; exact hc i hi j v hv
 | xr=>exact .xr
 | yd=>exact .yd
 | qV=>exact .qV
 | vW=>exact .vW
 | vV=>exact .vV
 | td v h=>exact .td v h
 | cA T=>exact .cA T
 | cd b T d hd =>
  obtain⟨⟨d',kN⟩,hp⟩:=x.var b d hd
  exact .cd b T d' kN
 | cB b T blk n d hd h =>
  obtain⟨⟨d',kN⟩,hp⟩:=x.var b d hd
  exact .cB b T blk n d' kN (hp.trans h)
 | ptr b off blk n d hd h =>
  obtain⟨⟨d',kN⟩,hp⟩:=x.var b d hd
  exact .ptr b off blk n d' kN (hp.trans h)
 | qR τ y cs blk off wg h hc=>exact .qR τ y cs blk off (x.same _ wg).1 (h.mono x.same) λj v hv=>by rw[bn (x.same _ wg).2]; exact hc j v hv
 | uo b qA e idx off blk o hb h =>
  refine .uo b qA e idx off blk o (x.old hb) λxs hx hi => ?_
  obtain⟨tq,h1,h2,h3⟩:=x.back hb hx
  grind
 | ms b qA e off len cap a hb vc ha pR h =>
  refine .ms b qA e off len cap a (x.old hb) vc ha pR λxs hx => ?_
  obtain⟨tq,h1,h2,h3⟩:=x.back hb hx
  have:=h tq h1
  unfold IL at this ⊢
  grind
 | qW f l vs hl h ih=>exact .qW f l vs hl ih
 | agg l vs hl ho h ih=>exact .agg l vs hl ho ih
 | yq l vs hl h ih=>exact .yq l vs hl ih
 | iface t d v h ih=>exact .iface t d v ih
end Go.AM
namespace Go.AM
section
variable {α β:Type}
theorem T.zD{t:T α}{k:α->T β}{b:β}:(t.bind k).leads b↔∃ a,t.leads a/\(k a).leads b:=by
 induction t with
 | ret a=>simp[T.bind,T.leads]
 | ite c t e i1 i2 =>
  simp only[T.bind,T.leads]
  grind
 | zL p t ih =>
  simp only[T.bind,T.leads]; constructor
  ·grind
  ·grind
 | fail=>simp[T.bind,T.leads]
theorem T.uc{o:Option α}{a:α}:(T.Gi o).leads a↔o=some a:=by cases o<;>simp[T.Gi,T.leads]
end
section
variable {κ:KS}
theorem qE.nil:qE κ [] []:=⟨rfl,λi h _=>absurd h (Nat.not_lt_zero i)⟩
theorem qE.cons{d:D}{v:Value}{l:List D}{vs:List Value}(h:RD κ d v)(t:qE κ l vs):qE κ (d::l) (v::vs) :=
 ⟨by simp[t.1],λi h1 h2=>by cases i with | zero=>exact h | succ i=>exact t.2 i (by grind) (by grind)⟩
theorem qE.cons_inv{d:D}{l:List D}{vs:List Value}(h:qE κ (d::l) vs):∃ v r,vs=v::r/\RD κ d v/\qE κ l r:=by
 obtain⟨hl,h⟩:=h
 cases vs with
 | nil=>simp at hl
 | cons v r=>exact⟨v,r,rfl,h 0 (by simp) (by simp),by grind,λi h1 h2=>h (i+1) (by grind) (by grind)⟩
theorem qE.qg{vs:List Value}(h:qE κ [] vs):vs=[]:=List.eq_nil_of_length_eq_zero h.1.symm
theorem qE.append{l l':List D}{vs vs':List Value}(h:qE κ l vs)(h':qE κ l' vs'):qE κ (l++l') (vs++vs'):=by
 induction l generalizing vs with
 | nil=>rw[h.qg]; exact h'
 | cons d l ih=>obtain⟨v,r,rfl,h1,h2⟩:=h.cons_inv; exact .cons h1 (ih h2)
theorem qE.Fh{l l':List D}{vs:List Value}(h:qE κ (l++l') vs):∃ v1 v2,vs=v1++v2/\qE κ l v1/\qE κ l' v2:=by
 induction l generalizing vs with
 | nil=>exact⟨[],vs,rfl,.nil,h⟩
 | cons d l ih =>
  obtain⟨v,r,rfl,h1,h2⟩:=h.cons_inv
  obtain⟨v1,v2,rfl,h3,h4⟩:=ih h2
  exact⟨v::v1,v2,rfl,.cons h1 h3,h4⟩
theorem qE.get{l:List D}{vs:List Value}(h:qE κ l vs){i:Nat}{d:D}(hd:l[i]? = some d):∃ v,vs[i]? = some v/\RD κ d v:=by
 obtain⟨qu,he⟩:=List.getElem?_eq_some_iff.1 hd
 have h2:i<vs.length:=h.1▸qu
 exact⟨vs[i],List.getElem?_eq_getElem h2,he▸h.2 i qu h2⟩
theorem qE.take{l:List D}{vs:List Value}(h:qE κ l vs)(n:Nat):qE κ (l.take n) (vs.take n) :=
 ⟨by simp[h.1],λi h1 h2=>by simp; exact h.2 i (by grind) (by grind)⟩
theorem qE.drop{l:List D}{vs:List Value}(h:qE κ l vs)(n:Nat):qE κ (l.drop n) (vs.drop n) :=
 ⟨by simp[h.1],λi h1 h2=>by simp; exact h.2 (n+i) (by grind) (by grind)⟩
theorem qE.mono{κ':KS}(x:Ext κ κ'){l:List D}{vs:List Value}(h:qE κ l vs):qE κ' l vs:=⟨h.1,λi h1 h2=>(h.2 i h1 h2).mono x⟩
theorem Qe{τ:Ty}{cs:List Value}(h:cs.length=τ.size)(oz:∀ v∈cs,v.oneCell'=true):(pk τ cs).cells.toList=cs:=by
 unfold pk
 split
 ·rfl
 ·rename_i hn
  have hs:τ.size=1:=by cases τ<;>simp[Ty.isAgg]at hn<;>rfl
  match cs,h,oz with
  | [v],_,oz =>
   have:=oz v (by simp)
   cases v<;>first | rfl | cases this
  | [],h,_=>grind
  | _::_::_,h,_=>grind
theorem VD{τ:Ty}(h:τ.isAgg=false)(v:Value):pk τ [v]=v:=by simp[pk,h]
theorem Wp{τ:Ty}(h:τ.isAgg=false):τ.size=1:=by cases τ<;>simp[Ty.isAgg]at h<;>rfl
theorem Rc.single{w:World}{ok:Nat->Prop}{τ:Ty}{x:den τ}{cs:List Value}(h:Rc w ok τ x cs)(ht:τ.isAgg=false):∃ v,cs=[v]:=by
 have:=h.len
 rw[Wp ht]at this
 match cs,this with
 | [v],_=>simp
theorem RD.nB{τ:Ty}{x:den τ}{v:Value}(ht:τ.isAgg=false)(h:Rc κ.w κ.ok τ x [v]):RD κ (.zI τ x) v:=by
 have:=RD.zI τ x [v] h
 rwa [VD ht]at this
theorem RD.gL{τ:Ty}{x:den τ}{v:Value}(h:RD κ (.zI τ x) v):∃ cs,Rc κ.w κ.ok τ x cs/\v=pk τ cs:=by
 cases h with | zI _ _ cs h=>exact⟨cs,h,rfl⟩
theorem RD.vi{τ:Ty}{x:den τ}{v:Value}(h:RD κ (.zI τ x) v)(ht:τ.isAgg=false):Rc κ.w κ.ok τ x [v]:=by
 obtain⟨cs,hc,rfl⟩:=RD.gL h
 obtain⟨u,rfl⟩:=hc.single ht
 rwa [VD ht]
theorem RD.int{k:IntKind}{n:Int}:RD κ (.zI (.int k) n) (.int k n):=RD.nB rfl (.int k n)
theorem RD.bool{b:Bool}:RD κ (.zI .bool b) (.bool b):=RD.nB rfl (.bool b)
theorem RD.str{s:ze}:RD κ (.zI .str s) (.string ⟨s.toArray⟩):=RD.nB rfl (.str s)
theorem RD.ym{k:IntKind}{n:Int}{v:Value}(h:RD κ (.zI (.int k) n) v):v=.int k n:=by have:=(h.vi rfl).ym; simpa using this
theorem RD.jL{b:Bool}{v:Value}(h:RD κ (.zI .bool b) v):v=.bool b:=by have:=(h.vi rfl).jL; simpa using this
theorem RD.wC{s:ze}{v:Value}(h:RD κ (.zI .str s) v):v=.string ⟨s.toArray⟩:=by have:=(h.vi rfl).wC; simpa using this
theorem qE.one{d:D}{v:Value}(h:RD κ d v):qE κ [d] [v]:=.cons h .nil
theorem ou{τ:Ty}{x:den τ}{cs:List Value}(h:Rc κ.w κ.ok τ x cs):qE κ (flat τ x) cs:=by
 induction τ generalizing cs with
 | int k=>obtain⟨v,rfl⟩:=h.single rfl; exact .one (.nB rfl h)
 | bool=>obtain⟨v,rfl⟩:=h.single rfl; exact .one (.nB rfl h)
 | str=>obtain⟨v,rfl⟩:=h.single rfl; exact .one (.nB rfl h)
 | sl e _=>obtain⟨v,rfl⟩:=h.single rfl; exact .one (.nB rfl h)
 | nil=>rw[h.qg]; exact .nil
 | cons a b i1 i2=>obtain⟨c1,c2,rfl,h1,h2⟩:=h.cons_inv; exact(i1 h1).append (i2 h2)
 | expr =>
  obtain⟨c1,r1,rfl,h1,t1⟩:=h.Dy.cons_inv
  obtain⟨c2,r2,rfl,h2,t2⟩:=t1.cons_inv
  obtain⟨c3,r3,rfl,h3,t3⟩:=t2.cons_inv
  obtain⟨c4,r4,rfl,h4,t4⟩:=t3.cons_inv
  have e4:=t4.qg
  subst e4
  obtain⟨d1,s1,rfl,g1,u1⟩:=h2.cons_inv
  obtain⟨d2,s2,rfl,g2,u2⟩:=u1.cons_inv
  obtain⟨d3,s3,rfl,g3,u3⟩:=u2.cons_inv
  have e5:=u3.qg
  subst e5
  obtain⟨v1,rfl⟩:=h1.single rfl
  obtain⟨v3,rfl⟩:=h3.single rfl
  obtain⟨v4,rfl⟩:=h4.single rfl
  obtain⟨u1,rfl⟩:=g1.single rfl
  obtain⟨u2,rfl⟩:=g2.single rfl
  obtain⟨u3,rfl⟩:=g3.single rfl
  exact .cons (.nB rfl h1) (.cons (.nB rfl g1) (.cons (.nB rfl g2) (.cons (.nB rfl g3) (.cons (.nB rfl h3) (.cons (.nB rfl h4) .nil)))))
theorem fa:∀ (τ:Ty) (x:den τ),∀ d∈flat τ x,d.one=true
 | .int _,_,d,h | .bool,_,d,h | .str,_,d,h | .sl _,_,d,h=>by simp[flat]at h; subst h; rfl
 | .nil,_,d,h=>by simp[flat]at h
 | .cons a b,x,d,h=>by
  simp only[flat,List.mem_append]at h
  rcases h with h | h
  ·exact fa a x.1 d h
  ·exact fa b x.2 d h
 | .expr,x,d,h=>by simp[flat]at h; rcases h with rfl | rfl | rfl | rfl | rfl | rfl<;>rfl
theorem Zw:∀ (τ:Ty) (x:den τ),(flat τ x).length=τ.size
 | .int _,_ | .bool,_ | .str,_ | .sl _,_ | .nil,_ | .expr,_=>rfl
 | .cons a b,x=>by simp[flat,Ty.size,Zw a,Zw b]
theorem G7{v:Value}(h:v.oneCell'=true):v.cells = #[v]:=by
 cases v<;>first | rfl | cases h
theorem j3{d:D}{v:Value}(h:RD κ d v)(ht:d.uM=false):qE κ (qh d) v.cells.toList:=by
 cases h with
 | zI τ x cs h=>rw[Qe h.len h.one]; exact ou h
 | agg l vs hl ho h=>exact⟨by simpa[Value.cells,qh]using hl,λi h1 h2=>by simp at h2 ⊢; exact h i h1 h2⟩
 | yq=>cases ht
 | xd e a=>exact .one (.xd e a)
 | tight e l ne blk off f vM wg h hc=>exact .one (.tight e l ne blk off f vM wg h hc)
 | xr=>exact .one .xr
 | yd=>exact .one .yd
 | qV=>exact .one .qV
 | vW=>exact .one .vW
 | vV=>exact .one .vV
 | td v h=>rw[G7 h]; exact .one (.td v h)
 | cA T=>exact .one (.cA T)
 | cd b T d hd=>exact .one (.cd b T d hd)
 | cB b T blk n d hd h=>exact .one (.cB b T blk n d hd h)
 | ptr b off blk n d hd h=>exact .one (.ptr b off blk n d hd h)
 | qR τ x cs blk off wg h hc=>exact .one (.qR τ x cs blk off wg h hc)
 | uo b qA e idx off blk o hb h=>exact .one (.uo b qA e idx off blk o hb h)
 | ms b qA e off len cap a hb vc ha pR h=>exact .one (.ms b qA e off len cap a hb vc ha pR h)
 | qW f l vs hl h=>rw[Jb]; exact .one (.qW f l vs hl h)
 | iface t d v h=>exact .one (.iface t d v h)
theorem j4{d:D}{v:Value}(h:RD κ d v):∀ x∈qh d,x.one=true:=by
 cases h with
 | zI τ x cs h=>exact fa τ x
 | agg l vs hl ho h=>exact ho
 | yq=>nofun
 | _=>intro x hx; simp[qh]at hx; subst hx; rfl
theorem RD.Vk{d:D}{v:Value}(h:RD κ d v)(ho:d.one=true):v.oneCell'=true:=by
 cases h with
 | zI τ x cs h =>
  have ht:τ.isAgg=false:=by simpa[D.one]using ho
  obtain⟨v,rfl⟩:=h.single ht
  rw[VD ht]
  exact h.one v (by simp)
 | agg=>cases ho
 | yq=>cases ho
 | td v h=>exact h
 | qW f l vs=>exact R2 f vs
 | _=>rfl
theorem qk{a b:Ty}{x:den a}{y:den b}(h:(wP x:Option (den b))=some y):∃ e:a=b,y=e▸x:=by
 unfold wP at h
 grind
theorem y9{τ:Ty}{d:D}{v:Value}{x:den τ}(h:RD κ d v)(hx:eR τ d=some x)(ht:τ.isAgg=false):Rc κ.w κ.ok τ x [v]:=by
 cases h with
 | zI σ y cs h =>
  obtain⟨rfl,rfl⟩:=qk hx
  obtain⟨u,rfl⟩:=h.single ht
  rwa [VD ht]
 | xd e a=>obtain⟨rfl,rfl⟩:=qk hx; exact .fO e a
 | tight e l ne blk off f vM wg h hc=>obtain⟨rfl,rfl⟩:=qk hx; exact .sl e _ blk off _ f wg (Nat.le_refl _) h hc
 | xr =>
  cases τ with
  | sl e=>simp[eR]at hx; subst hx; exact .fO e none
  | _=>simp[eR]at hx
 | _=>simp[eR]at hx
theorem si:∀ (τ:Ty) {ds:List D} {vs:List Value} {x:den τ} {r:List D},qE κ ds vs->jf τ ds=some (x,r) ->
  ∃ c1 c2,vs=c1++c2/\Rc κ.w κ.ok τ x c1/\qE κ r c2
 | .int k,[],_,_,_,_,he | .bool,[],_,_,_,_,he | .str,[],_,_,_,_,he | .sl e,[],_,_,_,_,he | .expr,[],_,_,_,_,he=>by simp[jf]at he
 | .int k,d::r,vs,x,r',h,he=>by
  simp only[jf]at he
  split at he
  ·rename_i y hy; cases he; obtain⟨v,u,rfl,h1,h2⟩:=h.cons_inv; exact⟨[v],u,rfl,y9 h1 hy rfl,h2⟩
  ·cases he
 | .bool,d::r,vs,x,r',h,he=>by
  simp only[jf]at he
  split at he
  ·rename_i y hy; cases he; obtain⟨v,u,rfl,h1,h2⟩:=h.cons_inv; exact⟨[v],u,rfl,y9 h1 hy rfl,h2⟩
  ·cases he
 | .str,d::r,vs,x,r',h,he=>by
  simp only[jf]at he
  split at he
  ·rename_i y hy; cases he; obtain⟨v,u,rfl,h1,h2⟩:=h.cons_inv; exact⟨[v],u,rfl,y9 h1 hy rfl,h2⟩
  ·cases he
 | .sl e,d::r,vs,x,r',h,he=>by
  simp only[jf]at he
  split at he
  ·rename_i y hy; cases he; obtain⟨v,u,rfl,h1,h2⟩:=h.cons_inv; exact⟨[v],u,rfl,y9 h1 hy rfl,h2⟩
  ·cases he
 | .nil,ds,vs,x,r,h,he=>by simp only[jf]at he; cases he; exact⟨[],vs,rfl,.nil,h⟩
 | .cons a b,ds,vs,x,r,h,he=>by
  simp only[jf]at he
  split at he
  ·rename_i y r' hy
   split at he
   ·rename_i z r'' hz
    cases he
    obtain⟨c1,c2,rfl,h1,h2⟩:=si a h hy
    obtain⟨c3,c4,rfl,h3,h4⟩:=si b h2 hz
    exact⟨c1++c3,c4,by simp,.cons a b y z c1 c3 h1 h3,h4⟩
   ·cases he
  ·cases he
 | .expr,d::r,vs,x,r',h,he=>by
  simp only[jf]at he
  split at he
  ·cases he
  ·rename_i k hk
   split at he
   ·rename_i d1 d2 d3 d4 d5 r0
    split at he
    ·rename_i a n m s l ha hn hm hs hl
     cases he
     obtain⟨v,u,rfl,h0,t0⟩:=h.cons_inv
     obtain⟨v1,u1,rfl,h1,t1⟩:=t0.cons_inv
     obtain⟨v2,u2,rfl,h2,t2⟩:=t1.cons_inv
     obtain⟨v3,u3,rfl,h3,t3⟩:=t2.cons_inv
     obtain⟨v4,u4,rfl,h4,t4⟩:=t3.cons_inv
     obtain⟨v5,u5,rfl,h5,t5⟩:=t4.cons_inv
     refine⟨[v]++(([v1]++([v2]++([v3]++[])))++([v4]++([v5]++[]))),u5,by simp,.expr _ _ _ _ _ ?_,t5⟩
     exact .cons i64 _ k _ _ _ (y9 h0 hk rfl) (.cons KO _ (a,n,m,()) _ _ _ (.cons .bool _ a _ _ _ (y9 h1 ha rfl) (.cons _ _ n _ _ _ (y9 h2 hn rfl) (.cons _ _ m _ _ _ (y9 h3 hm rfl) .nil)))
      (.cons .str _ s _ _ _ (y9 h4 hs rfl) (.cons _ _ l _ _ _ (y9 h5 hl rfl) .nil)))
    ·cases he
   ·cases he
theorem bN{τ:Ty}{d:D}{v:Value}{x:den τ}(h:RD κ d v)(hx:fp τ d=some x):RD κ (.zI τ x) v:=by
 have key:(∀ σ y,d≠.zI σ y)->(bif (d.isAgg==τ.isAgg) && !d.uM then(match jf τ (qh d)with | some (x,[])=>some x | _=>none)else none)=some x->RD κ (.zI τ x) v:=by
  intro hni hx
  cases hc:(d.isAgg==τ.isAgg) && !d.uM with
  | false=>grind
  | true =>
  rw[hc]at hx
  simp at hc
  obtain⟨z6Z,Bo⟩:=hc
  split at hx
  ·rename_i y hy
   cases hx
   obtain⟨c1,c2,he,h1,h2⟩:=si τ (j3 h Bo) hy
   have e2:=h2.qg
   subst e2
   rw[List.append_nil]at he
   have hv:v=pk τ c1:=by
    rw[<- he]
    cases hd:d.isAgg with
    | true =>
     cases d<;>simp[D.isAgg]at hd
     cases h with | agg l vs hl ho h=>simp[pk,D.isAgg]at z6Z ⊢; simp[<- z6Z,Value.cells]
    | false =>
     simp only[pk,<- z6Z]
     cases h<;>first | rfl | (rw[Jb]; rfl) | (rename_i hu; rw[G7 hu]; rfl) | (rename_i σ y cs hc; exact absurd rfl (hni σ y)) | (simp at hd; done) | (simp at Bo; done)
   rw[hv]
   exact .zI τ _ c1 h1
  ·cases hx
 cases d with
 | zI σ y=>obtain⟨rfl,rfl⟩:=qk hx; exact h
 | _=>exact key (λ_ _=>nofun) hx
end
end Go.AM
namespace Go.AM
set_option linter.unusedSectionVars false
variable [vX]
def qx(P:Program)(s:Sem Next)(κ:KS)(d:Option D)(zt:St):Prop :=
 ∃ (κ':KS) (n:Next) (v:Value),s.run P κ.w=.ok n κ'.w/\(n=.value v\/(n=.skip/\v=undef))/\κ'.st=zt/\Inv κ'/\Ext κ κ'/\∀ d',d=some d'->RD κ' d' v
section
variable {c:Ctx} {κ:KS}
theorem qx.pure{s:Sem Value}{d:D}{v:Value}(hi:Inv κ)(h:s.run c.P κ.w=.ok v κ.w)(hd:RD κ d v):qx c.P (do Pure.pure (.value (<- s))) κ (some d) κ.st :=
 ⟨κ,.value v,v,by simp[h],.inl rfl,rfl,hi,Ext.refl κ,λ_ he=>by grind⟩
theorem qx.val{d:Option D}{v:Value}(hi:Inv κ)(hd:∀ d',d=some d'->RD κ d' v):qx c.P (Pure.pure (.value v)) κ d κ.st :=
 ⟨κ,.value v,v,rfl,.inl rfl,rfl,hi,Ext.refl κ,hd⟩
theorem dO{t n:Nat}(h:fP c t=some n):∃ i,c.P.info? t=some i/\i.size=n:=by
 unfold fP at h
 cases hi:c.P.info? t with
 | none=>grind
 | some i=>grind
theorem run_sizeOf{t n:Nat}(h:fP c t=some n)(w:World):(sizeOf t).run c.P w=.ok n w:=by
 obtain⟨i,h1,h2⟩:=dO h
 simp[sizeOf,typeInfo,h1,h2]
theorem rE{t:Nat}{b:Bool}(h:Dg c t=some b)(w:World):(isAgg t).run c.P w=.ok b w:=by
 unfold Dg at h
 cases hu:c.P.underlying t with
 | none=>grind
 | some d =>
  simp only[isAgg,Sem.run_bind,run_underlying hu]
  cases d<;>simp[hu]at h<;>simp[<- h]
theorem vr{t:Nat}{τ:Ty}(h:k9 c t τ=true):fP c t=some τ.size/\Dg c t=some τ.isAgg:=by
 unfold k9 at h
 simp at h
 obtain⟨⟨_,h1⟩,h2⟩:=h
 constructor
 ·split at h1
  ·rename_i n hn; rw[hn,Nat.eq_of_beq_eq_true h1]
  ·cases h1
 ·grind
theorem ZS{t:Nat}{τ:Ty}(h:k9 c t τ=true):z5s τ t:=by
 unfold k9 at h
 simp at h
 intro e
 subst e
 exact Nat.eq_of_beq_eq_true h.1.1
omit [vX]in
theorem vx(blk o j:Nat):(⟨blk,o,none⟩:Addr).add j=⟨blk,o+j,none⟩:=by unfold Addr.add; split<;>simp_all
theorem iE{t:Nat}{b:Bool}{n blk o:Nat}{cs:List Value}(ha:Dg c t=some b)(hn:fP c t=some n)(hl:cs.length=n)(h1:b=false->n=1)
  (hc:∀ j v,cs[j]? = some v->κ.w.cell? ⟨blk,o+j,none⟩=some v) :
  (loadVar t ⟨blk,o,none⟩).run c.P κ.w=.ok (if b then .agg cs.toArray else cs.headD undef) κ.w:=by
 simp only[loadVar,Sem.run_bind,rE ha]
 cases b with
 | true =>
  simp[if_true,run_sizeOf hn]
  rw[<- hl,run_loadCells_list κ.w ⟨blk,o,none⟩ cs (λj v hj=>by rw[vx]; exact hc j v hj)]
  simp
 | false =>
  have:=h1 rfl
  subst this
  match cs,hl with
  | [v],_ =>
   have:=hc 0 v rfl
   simp at this
   simp[this]
theorem z0d{t:Nat}{τ:Ty}{x:den τ}{cs:List Value}{blk o:Nat}(ht:k9 c t τ=true)(h:Rc κ.w κ.ok τ x cs)
  (hc:∀ j v,cs[j]? = some v->κ.w.cell? ⟨blk,o+j,none⟩=some v):(loadVar t ⟨blk,o,none⟩).run c.P κ.w=.ok (pk τ cs) κ.w:=by
 obtain⟨h1,h2⟩:=vr ht
 rw[iE (c:=c) h2 h1 h.len (λe=>Wp e) hc]
 rfl
theorem wU{t:T (Option D)}{st zt:St}{d:Option D}:(zH (.val t) st).leads (d,zt)↔t.leads d/\zt=st:=by
 simp only[zH,T.zD,T.leads]
 grind
theorem lF{k:St->T (Option D)}{st zt:St}{d:Option D}:(zH (.rd k) st).leads (d,zt)↔(k st).leads d/\zt=st:=by
 simp only[zH,T.zD,T.leads]
 grind
theorem zf{st:St}{r:Option D×St}:¬ (zH bad st).leads r:=by nofun
theorem jY{x:D}{st zt:St}{d:Option D}:(zH (AM.val x) st).leads (d,zt)↔d=some x/\zt=st:=by
 rw[AM.val,wU]; simp only[T.leads]; exact⟨λh=>⟨h.1.symm,h.2⟩,λh=>⟨h.1.symm,h.2⟩⟩
theorem vv{p:Prop}{x:D}{st zt:St}{d:Option D}:(zH (.val (.zL p (.ret (some x)))) st).leads (d,zt)↔p/\d=some x/\zt=st:=by
 rw[wU]; simp only[T.leads]
 grind
theorem Jq{x:Option D}{st zt:St}{d:Option D}(h:(zH (z2A x) st).leads (d,zt)):∃ y,x=some y/\d=some y/\zt=st:=by
 cases x with
 | none=>exact absurd h zf
 | some y=>rw[z2A,wU]at h; exact⟨y,rfl,h.1.symm,h.2⟩
theorem WO:∀ (τ:Ty) (x:den τ) {cs:List Value},qE κ (flat τ x) cs->Rc κ.w κ.ok τ x cs
 | .int k,x,cs,h=>by obtain⟨v,r,rfl,h1,h2⟩:=h.cons_inv; rw[h2.qg]; exact h1.vi rfl
 | .bool,x,cs,h=>by obtain⟨v,r,rfl,h1,h2⟩:=h.cons_inv; rw[h2.qg]; exact h1.vi rfl
 | .str,x,cs,h=>by obtain⟨v,r,rfl,h1,h2⟩:=h.cons_inv; rw[h2.qg]; exact h1.vi rfl
 | .sl e,x,cs,h=>by obtain⟨v,r,rfl,h1,h2⟩:=h.cons_inv; rw[h2.qg]; exact h1.vi rfl
 | .nil,x,cs,h=>by rw[h.qg]; exact .nil
 | .cons a b,x,cs,h=>by
  obtain⟨c1,c2,rfl,h1,h2⟩:=qE.Fh h
  exact .cons a b x.1 x.2 c1 c2 (WO a x.1 h1) (WO b x.2 h2)
 | .expr,.mk k (a,n,m,()) s l,cs,h=>by
  obtain⟨v,u,rfl,h0,t0⟩:=h.cons_inv
  obtain⟨v1,u1,rfl,h1,t1⟩:=t0.cons_inv
  obtain⟨v2,u2,rfl,h2,t2⟩:=t1.cons_inv
  obtain⟨v3,u3,rfl,h3,t3⟩:=t2.cons_inv
  obtain⟨v4,u4,rfl,h4,t4⟩:=t3.cons_inv
  obtain⟨v5,u5,rfl,h5,t5⟩:=t4.cons_inv
  rw[t5.qg]
  exact .expr _ _ _ _ _ (.cons i64 _ k _ _ _ (h0.vi rfl) (.cons KO _ (a,n,m,()) _ _ _ (.cons .bool _ a _ _ _ (h1.vi rfl) (.cons (.sl u32) (.cons (.sl u32) .nil) n (m,()) [v2] ([v3]++[]) (h2.vi rfl) (.cons (.sl u32) .nil m () [v3] [] (h3.vi rfl) .nil)))
      (.cons .str _ s _ _ _ (h4.vi rfl) (.cons (.sl .expr) .nil l () [v5] [] (h5.vi rfl) .nil))))
theorem Ir{t:Nat}{d r:D}{off:Nat}{vs:List Value}(h:DZ c t d off=some r)(hd:qE κ (qh d) vs)(oz:∀ x∈qh d,x.one=true) :
  (∃ n,Dg c t=some true/\fP c t=some n/\off+n<=vs.length/\RD κ r (.agg ((vs.drop off).take n).toArray)) \/
  (∃ v,Dg c t=some false/\vs[off]? = some v/\RD κ r v):=by
 unfold DZ at h
 split at h
 ·rename_i ha
  split at h
  ·cases h
  ·rename_i n hn
   refine .inl ⟨n,ha,hn,?_⟩
   cases hb:(Nat.beq off 0&&Nat.beq n (qh d).length&&d.zaB)with
   | true =>
    rw[hb]at h
    simp at h
    subst h
    simp only[Bool.and_eq_true]at hb
    obtain⟨⟨h1,h2⟩,h3⟩:=hb
    have e1:off=0:=Nat.eq_of_beq_eq_true h1
    have e2:n=(qh d).length:=Nat.eq_of_beq_eq_true h2
    subst e1
    have hl:=hd.1
    rw[e2,hl]
    refine⟨by omega,?_⟩
    simp
    cases d with
    | zI τ x =>
     have:=RD.zI τ x vs (WO τ x hd)
     simpa[pk,show τ.isAgg=true from h3]using this
    | agg l=>exact .agg l vs hl oz hd.2
    | _=>cases h3
   | false =>
    rw[hb]at h
    split at h
    ·rename_i l hl
     cases h
     unfold Gl at hl
     cases hle:Nat.ble (off+n) (qh d).length with
     | false=>grind
     | true =>
      rw[hle]at hl
      cases hl
      have KA:=Nat.le_of_ble_eq_true hle
      refine⟨by rw[<- hd.1]; exact KA,?_⟩
      have ht:=(hd.drop off).take n
      exact .agg _ _ ht.1 (λx hx=>oz x (List.mem_of_mem_drop (List.mem_of_mem_take hx))) ht.2
    ·cases h
 ·rename_i ha
  obtain⟨v,h1,h2⟩:=hd.get h
  grind
 ·cases h
theorem UL{t:Nat}{d r:D}{off blk:Nat}{vs:List Value}(base:Nat)(h:DZ c t d off=some r)(hd:qE κ (qh d) vs)(oz:∀ x∈qh d,x.one=true)
  (hc:∀ j v,vs[j]? = some v->κ.w.cell? ⟨blk,base+j,none⟩=some v):∃ v,(loadVar t ⟨blk,base+off,none⟩).run c.P κ.w=.ok v κ.w/\RD κ r v:=by
 rcases Ir h hd oz with⟨n,ha,hn,hle,hr⟩ | ⟨v,ha,hv,hr⟩
 ·refine⟨_,?_,hr⟩
  rw[iE (c:=c) (b:=true) (cs:=(vs.drop off).take n) ha hn (by grind) nofun]
  ·simp
  ·grind
 ·refine⟨v,?_,hr⟩
  simp only[loadVar,Sem.run_bind,rE ha]
  simp[hc off v hv]
theorem Inv.Mt{κ:KS}(hi:Inv κ){b:Nat}{x:kA}(h:κ.st[b]? = some x):eK κ b x:=hi.blk b x h
theorem rq{blk:Nat}{cs:Array Value}{t:TypeId}{fz:Nat×Nat}(h:κ.w.heap[blk]? = some (.cells cs t fz))(o:Nat):κ.w.cell? ⟨blk,o,none⟩=cs[o]? := by
 simp[World.cell?,h]
theorem OI{t:Nat}{x:Option D}{v:Value}{d:Option D}{zt:St}(hi:Inv κ)(hx:∀ y,x=some y->RD κ y v)(h:(zH (Uf c t x) κ.st).leads (d,zt)) :
  qx c.P (do Pure.pure (.value (<- Instr.loadAt t v))) κ d zt:=by
 unfold Uf at h
 split at h
 ·rename_i τ y
  cases ht:k9 c t τ with
  | false=>rw[ht]at h; exact absurd h zf
  | true =>
   rw[ht,cond_true,jY]at h
   obtain⟨rfl,rfl⟩:=h
   cases hx _ rfl with
   | qR _ _ cs blk off wg hr hc =>
    exact qx.pure hi (by simp[Instr.loadAt,Instr.sureAddr,z0d ht hr hc]) (.zI τ y cs hr)
 ·rename_i b off
  rw[lF]at h
  obtain⟨h,rfl⟩:=h
  split at h
  ·rename_i d0 hb
   split at h
   ·rename_i r hr
    cases h
    cases hx _ rfl with
    | ptr _ _ blk n d1 hd hp =>
     obtain⟨lW,n',cs,T,g1,g2,g3,g4,g5⟩:=hi.blk b _ hb
     rw[hp]at g1
     cases g1
     obtain⟨v,h1,h2⟩:=UL (c:=c) (blk:=blk) 0 hr g4 g5.1 (λj v hj=>by rw[rq g2]; simpa using hj)
     rw[Nat.zero_add]at h1
     exact qx.pure hi (by simp[Instr.loadAt,Instr.sureAddr,h1]) h2
   ·exact h.elim
  ·exact h.elim
 ·rename_i b qA e idx off
  rw[lF]at h
  obtain⟨h,rfl⟩:=h
  split at h
  ·rename_i jQ e' xs hb
   cases he:decide (e'=e)with
   | false=>rw[he]at h; exact h.elim
   | true =>
    rw[he,cond_true]at h
    have TX:e'=e:=of_decide_eq_true he
    subst TX
    obtain⟨⟨rfl,qu⟩,h⟩:=h
    split at h
    ·rename_i r hr
     cases h
     cases hx _ rfl with
     | uo _ _ _ _ _ blk o hold hp =>
      obtain⟨n,p1,rfl⟩:=hp xs hb qu
      obtain⟨uH,⟨JV,_⟩ | ⟨lW,n',cs,T,g1,g2,g3,g4,gr,f,g5⟩⟩:=hi.blk b _ hb
      ·grind
      ·rw[p1]at g1
       cases g1
       have hg:xs.getD idx (zk e')=xs[idx]:=by simp[List.getD,List.getElem?_eq_getElem qu]
       rw[hg]at hr
       obtain⟨k1,k2⟩:=g5 idx qu
       obtain⟨v,h1,h2⟩:=UL (c:=c) (blk:=blk) (idx*e'.size) hr (ou k1) (fa _ _) (λj v hj=>by rw[rq g2]; exact k2 j v hj)
       exact qx.pure hi (by simp[Instr.loadAt,Instr.sureAddr,h1]) h2
    ·exact h.elim
  ·exact h.elim
 ·exact absurd h zf
end
end Go.AM
namespace Go.AM
set_option linter.unusedSectionVars false
variable [vX]
section
variable {c:Ctx} {κ:KS}
theorem Ho{s f o n:Nat}(h:Vg c s f=some (o,n)):∃ fs fd,c.P.underlying s=some (.struct fs)/\fs[f]? = some fd/\fP c fd.type=some n/\n≠0/\fd.offset=o:=by
 unfold Vg at h
 split at h
 ·rename_i fs hu
  split at h
  ·rename_i fd hf
   split at h
   ·rename_i m hm
    cases hb:Nat.beq m 0 with
    | true=>grind
    | false =>
     rw[hb]at h
     cases h
     refine⟨fs,fd,hu,hf,hm,?_,rfl⟩
     intro e
     subst e
     cases hb
   ·cases h
  ·cases h
 ·cases h
theorem og{s f o n blk p:Nat}(h:Vg c s f=some (o,n))(w:World) :
  (Instr.fieldAt s (.pointer (some ⟨blk,p,none⟩)) f).run c.P w=.ok (.pointer (some ⟨blk,p+o,none⟩)) w:=by
 obtain⟨fs,fd,h1,h2,h3,h4,h5⟩:=Ho h
 simp[Instr.fieldAt,run_underlying h1,h2,Instr.sureAddr,fieldPlace,run_sizeOf h3,h4,vx]
theorem Ux:∀ (τ:Ty) (x:den τ) (n:Nat) {d:D} {o s:Nat} {cs:List Value},pT τ x n=some (d,o,s)->Rc κ.w κ.ok τ x cs ->
  ∃ (σ:Ty) (y:den σ) (c2:List Value),d=.qR σ y/\Rc κ.w κ.ok σ y c2/\s=σ.size/\∀ j v,c2[j]? = some v->cs[o+j]? = some v
 | .cons a b,x,0,d,o,s,cs,h,hr=>by
  simp only[pT]at h
  cases h
  obtain⟨c1,c2,rfl,h1,h2⟩:=hr.cons_inv
  grind
 | .cons a b,x,n+1,d,o,s,cs,h,hr=>by
  simp only[pT]at h
  split at h
  ·rename_i d' o' s' h'
   cases h
   obtain⟨c1,c2,rfl,h1,h2⟩:=hr.cons_inv
   obtain⟨σ,y,c3,e1,e2,e3,e4⟩:=Ux b x.2 n h' h2
   refine⟨σ,y,c3,e1,e2,e3,λj v hj => ?_⟩
   have:=h1.len
   grind
  ·cases h
 | .expr,.mk k (a,n,m,()) s l,i,d,o,z,cs,h,hr=>by
  obtain⟨c1,r1,rfl,h1,t1⟩:=hr.Dy.cons_inv
  obtain⟨c2,r2,rfl,h2,t2⟩:=t1.cons_inv
  obtain⟨c3,r3,rfl,h3,t3⟩:=t2.cons_inv
  obtain⟨c4,r4,rfl,h4,t4⟩:=t3.cons_inv
  have e4:=t4.qg
  subst e4
  have l2:c2.length=3:=h2.len
  obtain⟨v1,rfl⟩:=h1.single rfl
  obtain⟨v3,rfl⟩:=h3.single rfl
  obtain⟨v4,rfl⟩:=h4.single rfl
  match i,h with
  | 0,h=>simp only[pT]at h; cases h; exact⟨i64,_,_,rfl,h1,rfl,λj v hj=>by match j,hj with | 0,hj=>simpa using hj⟩
  | 1,h => 
   simp only[pT]at h; cases h
   refine⟨KO,_,_,rfl,h2,rfl,λj v hj => ?_⟩
   grind
  | 2,h =>
   simp only[pT]at h; cases h
   refine⟨.str,_,_,rfl,h3,rfl,λj v hj => ?_⟩
   grind
  | 3,h =>
   simp only[pT]at h; cases h
   refine⟨.sl .expr,_,_,rfl,h4,rfl,λj v hj => ?_⟩
   match j,hj with
   | 0,hj =>
    simp only[List.cons_append,List.nil_append,Nat.add_zero,List.getElem?_cons_succ]
    rw[List.getElem?_append_right (by omega),l2]; simpa using hj
  | n+4,h=>simp[pT]at h
 | .int _,_,_,_,_,_,_,h,_ | .bool,_,_,_,_,_,_,h,_ | .str,_,_,_,_,_,_,h,_ | .sl _,_,_,_,_,_,_,h,_ | .nil,_,_,_,_,_,_,h,_=>by simp[pT]at h
theorem Ui{s f:Nat}{x:Option D}{v:Value}{d:Option D}{zt:St}(hi:Inv κ)(hx:∀ y,x=some y->RD κ y v)(h:(zH (pe c s f x) κ.st).leads (d,zt)) :
  qx c.P (do Pure.pure (.value (<- Instr.fieldAt s v f))) κ d zt:=by
 unfold pe at h
 split at h
 ·exact absurd h zf
 ·rename_i o n hf
  split at h
  ·rename_i τ y
   split at h
   ·rename_i d' o' n' Bc
    cases hb:Nat.beq o o'&&Nat.beq n n' with
    | false=>rw[hb]at h; exact absurd h zf
    | true =>
     rw[hb,cond_true,jY]at h
     obtain⟨rfl,rfl⟩:=h
     simp only[Bool.and_eq_true]at hb
     have e1:o=o':=Nat.eq_of_beq_eq_true hb.1
     subst e1
     cases hx _ rfl with
     | qR _ _ cs blk off wg hr hc =>
      obtain⟨σ,z,c2,rfl,g1,g2,g3⟩:=Ux τ y f Bc hr
      exact qx.pure hi (og hf κ.w) (.qR σ z c2 blk (off+o) wg g1 λj u hj=>by grind)
   ·exact absurd h zf
  ·rename_i b off
   obtain⟨rfl,rfl⟩:=h
   cases hx _ rfl with
   | ptr _ _ blk n d hd hp=>exact qx.pure hi (og hf κ.w) (.ptr b (off+o) blk n d hd hp)
  ·rename_i b qA e idx off
   obtain⟨rfl,rfl⟩:=h
   cases hx _ rfl with
   | uo _ _ _ _ _ blk p hold hp =>
    refine qx.pure hi (og hf κ.w) (.uo b qA e idx (off+o) blk (p+o) hold λxs h1 h2 => ?_)
    grind
  ·exact absurd h zf
theorem DY{s f:Nat}{x:Option D}{v:Value}{d:Option D}{zt:St}(hi:Inv κ)(hx:∀ y,x=some y->RD κ y v)(h:(zH (Gr c s f x) κ.st).leads (d,zt)) :
  qx c.P (do Pure.pure (.value (<- Instr.field s v f))) κ d zt:=by
 unfold Gr at h
 split at h
 ·rename_i fs hu
  split at h
  ·rename_i fd hf
   split at h
   ·rename_i y
    obtain⟨r,hr,rfl,rfl⟩:=Jq h
    cases SH:y.cL with
    | false=>grind
    | true =>
    rw[SH,cond_true]at hr
    have hy:=hx _ rfl
    have ⟨vs,hv,hvs⟩:∃ vs,v=.agg vs/\qE κ (qh y) vs.toList:=by
     have hfd:=j3 hy (by cases y<;>simp[D.cL,D.uM]at SH ⊢)
     cases hy<;>simp[D.cL]at SH
     ·rename_i τ z cs hc
      exact⟨cs.toArray,by simp[pk,SH],by simpa[pk,SH,Value.cells]using hfd⟩
     ·rename_i l vs hl ho hh
      exact⟨vs.toArray,rfl,by simpa[Value.cells]using hfd⟩
    subst hv
    rcases Ir hr hvs (j4 hy)with⟨n,ha,hn,hle,hrd⟩ | ⟨u,ha,hu',hrd⟩
    ·refine qx.pure hi ?_ hrd
     simp only[Instr.field,Sem.run_bind,run_underlying hu,Result.andThen_ok,hf,asAgg,Sem.run_pure,part,rE ha,if_true,run_sizeOf hn]
     congr 2
     grind
    ·refine qx.pure hi ?_ hrd
     have:vs[fd.offset]? = some u:=by simpa using hu'
     simp[Instr.field,run_underlying hu,hf,asAgg,part,rE ha,this]
   ·exact absurd h zf
  ·exact absurd h zf
 ·exact absurd h zf
theorem uq{t e:Nat}(h:fX c t=some e):c.P.underlying t=some (.slice e):=by
 unfold fX at h
 grind
theorem uj{x:Option D}{k:IntKind}{n:Int}{v:Value}(h:asInt x=some (k,n))(hx:∀ y,x=some y->RD κ y v):v=.int k n:=by
 unfold asInt at h
 split at h
 ·cases h; exact(hx _ rfl).ym
 ·cases h
theorem oG{x:Option D}{s:ze}{v:Value}(h:Jz x=some s)(hx:∀ y,x=some y->RD κ y v):v=.string ⟨s.toArray⟩:=by
 unfold Jz at h
 split at h
 ·cases h; exact(hx _ rfl).wC
 ·cases h
theorem sa{x:Option D}{b:Bool}{v:Value}(h:asBool x=some b)(hx:∀ y,x=some y->RD κ y v):v=.bool b:=by
 unfold asBool at h
 split at h
 ·cases h; exact(hx _ rfl).jL
 ·cases h
theorem WY{α:Type}{l:List α}{i:Nat}(h:i<l.length)(d:α):List.getD l i d=l[i]:=by grind
theorem pI{a:Ty}(x:den a):(wP x:Option (den a))=some x:=by simp[wP]
theorem BD{w:World}{ok:Nat->Prop}:∀ (τ:Ty) (e:Ty) (n:Nat) (x:den τ) (cs:List Value) (i:Nat),D2 τ=some (e,n)->Rc w ok τ x cs->i<n ->
  ∃ c,Rc w ok e (pW e τ x i) c/\∀ j v,c[j]? = some v->cs[i*e.size+j]? = some v
 | .cons a b,e,n,x,cs,i,ht,hr,hi=>by
  obtain⟨c1,c2,rfl,h1,h2⟩:=hr.cons_inv
  have key:∀ m,(b=.nil/\m=0\/D2 b=some (a,m))->i<m+1->∃ c,Rc w ok a (pW a (.cons a b) x i) c/\∀ j v,c[j]? = some v->(c1++c2)[i*a.size+j]? = some v:=by
   intro m hm hi
   cases i with
   | zero =>
    refine⟨c1,by simp only[pW,pI]; exact h1,λj v hj => ?_⟩
    grind
   | succ i =>
    rcases hm with⟨rfl,rfl⟩ | hm
    ·omega
    ·obtain⟨c,g1,g2⟩:=BD b a m x.2 c2 i hm h2 (by omega)
     refine⟨c,g1,λj v hj => ?_⟩
     have hl:=h1.len
     grind
  unfold D2 at ht
  split at ht
  ·cases ht; exact key 0 (.inl ⟨rfl,rfl⟩) (by omega)
  ·grind
 | .int _,_,_,_,_,_,ht,_,_=>by cases ht
 | .bool,_,_,_,_,_,ht,_,_=>by cases ht
 | .str,_,_,_,_,_,ht,_,_=>by cases ht
 | .sl _,_,_,_,_,_,ht,_,_=>by cases ht
 | .nil,_,_,_,_,_,ht,_,_=>by cases ht
 | .expr,_,_,_,_,_,ht,_,_=>by cases ht
theorem Ot{t n e:Nat}(h:z8J c t=some (n,e)):c.P.underlying t=some (.array n e):=by
 unfold z8J at h
 grind
theorem Ke{t:Nat}{x i:Option D}{k:IntKind}{n:Int}{v u:Value}{d:Option D}{zt:St}(hi:Inv κ)(hx:∀ y,x=some y->RD κ y v)(hy:∀ y,i=some y->RD κ y u)(XS:asInt i=some (k,n))
  (h:(zH (VO c t x n) κ.st).leads (d,zt)):qx c.P (do Pure.pure (.value (<- Instr.indexAt t v u))) κ d zt:=by
 have hu':=uj XS hy
 subst hu'
 unfold VO at h
 split at h
 ·rename_i m et τ y ha
  have hu:=Ot ha
  split at h
  ·rename_i e m' Lm
   cases ht:k9 c et e&&Nat.beq m m' with
   | false=>rw[ht]at h; exact absurd h zf
   | true =>
    rw[ht,cond_true,vv]at h
    simp only[Bool.and_eq_true]at ht
    have:=Nat.eq_of_beq_eq_true ht.2
    subst this
    obtain⟨⟨h0,h1⟩,rfl,rfl⟩:=h
    obtain⟨hs,_⟩:=vr ht.1
    cases hx _ rfl with
    | qR _ _ cs blk off wg DT hc =>
     obtain⟨cc,g1,g2⟩:=BD τ e m y cs n.toNat Lm DT (by omega)
     refine qx.pure hi ?_ (.qR e _ cc blk (off+n.toNat*e.size) wg g1 λj v hj=>by grind)
     simp[Instr.indexAt,asIntOf,run_underlying hu,h0,h1,run_sizeOf hs,vx,Instr.sureAddr]
  ·exact absurd h zf
 ·exact absurd h zf
theorem Ug{t:Nat}{x i:Option D}{v u:Value}{d:Option D}{zt:St}(hi:Inv κ)(hx:∀ y,x=some y->RD κ y v)(hy:∀ y,i=some y->RD κ y u)
  (h:(zH (pU c t x i) κ.st).leads (d,zt)):qx c.P (do Pure.pure (.value (<- Instr.indexAt t v u))) κ d zt:=by
 unfold pU at h
 split at h
 ·rename_i k n het XS
  exact Ke hi hx hy XS h
 ·rename_i et k n het XS
  have hu:=uq het
  have hu':=uj XS hy
  subst hu'
  split at h
  ·rename_i e l
   cases ht:k9 c et e with
   | false=>rw[ht]at h; exact absurd h zf
   | true =>
    rw[ht,cond_true,vv]at h
    obtain⟨⟨h0,h1⟩,rfl,rfl⟩:=h
    obtain⟨hs,_⟩:=vr ht
    have qu:n.toNat<List.length l:=by omega
    rcases((hx _ rfl).vi rfl).Xf with⟨rfl,_⟩ | ⟨blk,off,cap,f,he,wg,vc,hh,hc⟩
    ·cases qu
    ·cases he
     rw[WY qu]
     refine qx.pure hi ?_ (.qR e _ (f n.toNat) blk (off+n.toNat*e.size) wg (hh _ qu) λj v hj=>hc _ qu j v hj)
     simp[Instr.indexAt,asIntOf,run_underlying hu,h0,h1,run_sizeOf hs,vx]
  ·rename_i e l ne
   cases ht:k9 c et e with
   | false=>rw[ht]at h; exact absurd h zf
   | true =>
    rw[ht,cond_true,vv]at h
    obtain⟨⟨h0,h1⟩,rfl,rfl⟩:=h
    obtain⟨hs,_⟩:=vr ht
    have qu:n.toNat<List.length l:=by omega
    cases hx _ rfl with
    | xd=>cases qu
    | tight _ _ _ blk off f vM wg hh hc =>
     rw[WY qu]
     refine qx.pure hi ?_ (.qR e _ (f n.toNat) blk (off+n.toNat*e.size) wg (hh _ qu) λj v hj=>hc _ qu j v hj)
     simp[Instr.indexAt,asIntOf,run_underlying hu,h0,h1,run_sizeOf hs,vx]
  ·rename_i b qA e off len
   cases ht:k9 c et e with
   | false=>rw[ht]at h; exact absurd h zf
   | true =>
    rw[ht,cond_true,vv]at h
    obtain⟨⟨h0,h1⟩,rfl,rfl⟩:=h
    obtain⟨hs,_⟩:=vr ht
    cases hx _ rfl with
    | ms _ _ _ _ _ cap a hold vc ha pR hm =>
     cases a with
     | none=>grind
     | some p =>
      have hp:=pR p rfl
      obtain⟨blk,o,sp⟩:=p
      subst hp
      refine qx.pure hi (v:=.pointer (some ⟨blk,o+n.toNat*e.size,none⟩)) ?_ (.uo b qA e (off+n.toNat) 0 blk _ hold λxs hb qu => ?_)
      ·simp[Instr.indexAt,asIntOf,run_underlying hu,h0,h1,run_sizeOf hs,vx]
      ·obtain⟨hle,⟨_,_,hv,_⟩ | ⟨lW,n',o',Ew,h3,h4,h5,h6,h7⟩⟩:=hm xs hb
       ·cases hv
       ·grind
  ·exact absurd h zf
 ·exact absurd h zf
theorem Nn(s:ze){i:Nat}(h:i<s.length):(⟨s.toArray⟩:ByteArray)[i]? = some s[i]:=by
 have uH:(⟨s.toArray⟩:ByteArray).size=s.length:=rfl
 rw[getElem?_pos _ _ (by grind)]
 rfl
theorem Et{t:Nat}{x i:Option D}{v u:Value}{d:Option D}{zt:St}(hi:Inv κ)(hx:∀ y,x=some y->RD κ y v)(hy:∀ y,i=some y->RD κ y u)
  (h:(zH (Hh c t x i) κ.st).leads (d,zt)):qx c.P (do Pure.pure (.value (<- Instr.index t v u))) κ d zt:=by
 unfold Hh at h
 split at h
 ·rename_i k n s XS hs hu
  have hu':=uj XS hy
  subst hu'
  have hv:=oG hs hx
  subst hv
  obtain⟨⟨h0,h1⟩,rfl,rfl⟩:=h
  have qu:n.toNat<s.length:=by omega
  rw[WY qu]
  exact qx.pure hi (by simp[Instr.index,asIntOf,run_underlying hu,h0,Nn s qu]) RD.int
 ·exact absurd h zf
def Wu(κ:KS):Option (Option D)->Option Value->Prop
 | none,none=>True
 | some x,some v=>∀ y,x=some y->RD κ y v
 | _,_=>False
theorem Ue{d n:Int}{x:Option (Option D)}{v:Option Value}(h:NT d x=some n)(hx:Wu κ x v):(x=none/\v=none/\n=d)\/(x.isSome/\∃ k,v=some (.int k n)):=by
 cases x with
 | none=>cases v with
  | none=>exact .inl ⟨rfl,rfl,by simpa[NT]using h.symm⟩
  | some v=>exact hx.elim
 | some x=>cases v with
  | none=>exact hx.elim
  | some v =>
   simp only[NT]at h
   split at h
   ·rename_i k i hk; cases h; exact .inr ⟨rfl,k,by rw[uj hk hx]⟩
   ·cases h
end
end Go.AM
namespace Go.AM
set_option linter.unusedSectionVars false
variable [vX]
section
variable {c:Ctx} {κ:KS}
theorem jE{P:Program}{isS:Bool}{len cap:Nat}{lo hi mx:Option Value}{l h:Int}{m:Nat}
  (hl:(lo=none/\l=0)\/∃ k,lo=some (.int k l)) (hh:(hi=none/\mx=none/\h=len)\/∃ k,hi=some (.int k h))
  (hm:(mx=none/\m=cap)\/∃ k,mx=some (.int k m)) (h0:0<=l) (h1:l<=h) (h2:h<=m) (h3:m<=cap) (w:World) :
  (Instr.sliceBounds isS len cap lo hi mx).run P w=.ok (l.toNat,h.toNat,m) w:=by
 have hh0:(0:Int)<=h:=by omega
 have WD:l<=(h.toNat:Int):=by omega
 rcases hl with⟨rfl,rfl⟩ | ⟨k1,rfl⟩<;>rcases hm with⟨rfl,rfl⟩ | ⟨k3,rfl⟩<;>rcases hh with⟨rfl,hx,rfl⟩ | ⟨k2,rfl⟩ <;>
  first
   | (cases hx; done)
   | (simp[Instr.sliceBounds,run_sliceBound, *]; done)
   | (simp[Instr.sliceBounds,run_sliceBound, *]; rw[run_sliceBound _ _ _ _ _ h0 WD]; rfl)
theorem Bp(s:ze)(l h:Int):(⟨s.toArray⟩:ByteArray).extract l.toNat h.toNat=⟨(vw l h s).toArray⟩:=by
 apply ByteArray.ext
 simp[vw,List.drop_take]
theorem Uw{n:Int}{x:Option (Option D)}{v:Option Value}(h:NT 0 x=some n)(hx:Wu κ x v):(v=none/\n=0)\/∃ k,v=some (.int k n):=by
 rcases Ue h hx with⟨_,h1,h2⟩ | ⟨_,h1⟩
 ·grind
 ·grind
theorem Hc{d n:Int}{x:Option (Option D)}{v:Option Value}(h:NT d x=some n)(hx:Wu κ x v):(v=none/\n=d)\/∃ k,v=some (.int k n):=by
 rcases Ue h hx with⟨_,h1,h2⟩ | ⟨_,h1⟩
 ·grind
 ·grind
theorem Zn{v:Option Value}(h:Wu κ none v):v=none:=by cases v with | none=>rfl | some _=>exact h.elim
theorem rI{e:Ty}{l:List (den e)}{lo hi:Int}(h0:0<=lo)(h1:lo<=hi)(h2:hi<=(l.length:Int)) :
  (va lo hi l).length=hi.toNat-lo.toNat/\∀ i (KB:i<(va lo hi l).length),∃ h:lo.toNat+i<l.length,(va lo hi l)[i]=l[lo.toNat+i]:=by
 have hlen:(va lo hi l).length=hi.toNat-lo.toNat:=by simp[va]; omega
 refine⟨hlen,λi KB=>⟨by omega,?_⟩⟩
 simp[va]
theorem FE{e:Ty}{l:List (den e)}{lo hi:Int}{blk off cap m:Nat}{f:Nat->List Value}(wg:κ.ok blk)
  (hh:∀ i (hi:i<l.length),Rc κ.w κ.ok e l[i] (f i)) (hc:∀ i,i<l.length->∀ j v,(f i)[j]? = some v->κ.w.cell? ⟨blk,off+i*e.size+j,none⟩=some v)
  (h0:0<=lo) (h1:lo<=hi) (h2:hi<=(l.length:Int)) (hm:hi<=(m:Int)) (vc:m<=cap) :
  (∀ i (KB:i<(va lo hi l).length),Rc κ.w κ.ok e (va lo hi l)[i] (f (lo.toNat+i))) /\
  (∀ i,i<(va lo hi l).length->∀ j v,(f (lo.toNat+i))[j]? = some v ->
   κ.w.cell? ⟨blk,(if m=lo.toNat then off else off+lo.toNat*e.size)+i*e.size+j,none⟩=some v)/\(va lo hi l).length<=m-lo.toNat:=by
 obtain⟨hl,hg⟩:=rI h0 h1 h2
 refine⟨λi KB => ?_,λi KB j v hj => ?_,by omega⟩
 ·obtain⟨h3,h4⟩:=hg i KB
  rw[h4]; exact hh _ h3
 ·obtain⟨h3,h4⟩:=hg i KB
  have:=hc _ h3 j v hj
  rw[if_neg (by omega)]
  rw[Nat.add_mul,<- Nat.add_assoc]at this
  exact this
theorem Er{t:Nat}{x:Option D}{lo hi mx:Option (Option D)}{v:Value}{vl vh vm:Option Value}{d:Option D}{zt:St}(hI:Inv κ)(hx:∀ y,x=some y->RD κ y v)
  (hlo:Wu κ lo vl) (hhi:Wu κ hi vh) (hmx:Wu κ mx vm)
  (h:(zH (GV c t x lo hi mx) κ.st).leads (d,zt)):qx c.P (do Pure.pure (.value (<- Instr.sliceAt t v vl vh vm))) κ d zt:=by
 unfold GV at h
 split at h
 ·rename_i s
  obtain⟨s,rfl⟩:∃ s':ze,s=s':=⟨s,rfl⟩
  split at h
  ·rename_i l hh hu hl hh'
   rw[vv]at h
   obtain⟨⟨h0,h1,h2⟩,rfl,rfl⟩:=h
   have hv:=(hx _ rfl).wC
   subst hv
   have e1:=Zn hmx
   subst e1
   refine qx.pure hI ?_ RD.str
   have uH:(⟨s.toArray⟩:ByteArray).size=s.length:=rfl
   have hb:=jE (P:=c.P) (isS:=false) (len:=s.length) (cap:=s.length) (mx:=none) (m:=s.length) (Uw hl hlo)
    (fg (Hc hh' hhi) (λh=>⟨h.1,rfl,h.2⟩) id) (.inl ⟨rfl,rfl⟩) h0 h1 h2 (Nat.le_refl _) κ.w
   simp only[Instr.sliceAt,Sem.run_bind,run_underlying hu,Result.andThen_ok,Instr.slice,Option.isSome_none,Bool.false_eq_true,if_false,uH,hb,Bp]
   rfl
  ·exact absurd h zf
 ·rename_i e s
  split at h
  ·rename_i et l hh het hl hh'
   have hu:=uq het
   cases ht:k9 c et e with
   | false=>rw[ht]at h; exact absurd h zf
   | true =>
    obtain⟨hs,_⟩:=vr ht
    rw[ht,cond_true]at h
    split at h
    ·rw[vv]at h
     obtain⟨⟨h0,h1,h2⟩,rfl,rfl⟩:=h
     have e1:=Zn hmx
     subst e1
     have Ko:=Uw hl hlo
     have KJ:(vh=none/\(none:Option Value)=none/\hh=(s.length:Int))\/∃ k,vh=some (.int k hh):=fg (Hc hh' hhi) (λh=>⟨h.1,rfl,h.2⟩) id
     rcases((hx _ rfl).vi rfl).Xf with⟨rfl,a0,he⟩ | ⟨blk,off,cap,f,he,wg,vc,Nb,Sd⟩
     ·cases he
      simp only[List.length_nil,Int.cast_ofNat_Int]at h2
      have hb:=jE (P:=c.P) (isS:=true) (len:=0) (cap:=0) (mx:=none) (m:=0) Ko KJ (.inl ⟨rfl,rfl⟩) h0 h1 h2 (Nat.le_refl _) κ.w
      have e0:l=0:=by omega
      have e2:hh=0:=by omega
      subst e0 e2
      refine qx.pure hI (v:=.slice a0 0 0) ?_ (.nB rfl (.fO e a0))
      simp[Instr.sliceAt,run_underlying hu,Instr.slice,hb,run_sizeOf hs]
     ·cases he
      obtain⟨k1,k2,k3⟩:=FE (lo:=l) (hi:=hh) (cap:=cap) (m:=cap) wg Nb Sd h0 h1 h2 (by omega) (Nat.le_refl _)
      have hb:=jE (P:=c.P) (isS:=true) (len:=s.length) (cap:=cap) (mx:=none) (m:=cap) Ko KJ (.inl ⟨rfl,rfl⟩) h0 h1 (by omega) (Nat.le_refl _) κ.w
      have hlen:=(rI h0 h1 h2).1
      refine qx.pure hI ?_ (.nB rfl (.sl e (va l hh s) blk _ (cap-l.toNat) _ wg k3 k1 k2))
      simp only[Instr.sliceAt,Sem.run_bind,run_underlying hu,Result.andThen_ok,Instr.slice,hb,run_sizeOf hs,Sem.run_pure,hlen]
      congr 3
      split<;>simp[vx]
    ·split at h
     ·rename_i mx m km mi hm'
      cases hhs:hi.isSome with
      | false=>rw[hhs]at h; exact absurd h zf
      | true =>
      rw[hhs,cond_true,vv]at h
      obtain⟨⟨h0,h1,rfl,h2⟩,rfl,rfl⟩:=h
      obtain⟨vm,rfl⟩:∃ u,vm=some u:=by cases vm with | none=>exact hmx.elim | some u=>exact⟨u,rfl⟩
      have hvm:=uj hm' hmx
      subst hvm
      have Ko:=Uw hl hlo
      have KJ:(vh=none/\(some (Value.int km hh):Option Value)=none/\hh=(s.length:Int))\/∃ k,vh=some (.int k hh):=by
       rcases Ue hh' hhi with⟨g1,_⟩ | ⟨_,g⟩
       ·rw[g1]at hhs; cases hhs
       ·exact .inr g
      have em:((hh.toNat:Nat):Int)=hh:=by omega
      rcases((hx _ rfl).vi rfl).Xf with⟨rfl,a0,he⟩ | ⟨blk,off,cap,f,he,wg,vc,Nb,Sd⟩
      ·cases he
       simp only[List.length_nil,Int.cast_ofNat_Int]at h2
       have hb:=jE (P:=c.P) (isS:=true) (len:=0) (cap:=0) (mx:=some (.int km hh)) (m:=hh.toNat) Ko KJ (.inr ⟨km,by rw[em]⟩) h0 h1 (by omega) (by omega) κ.w
       have e0:l=0:=by omega
       have e2:hh=0:=by omega
       subst e0 e2
       refine qx.pure hI (v:=.slice a0 0 0) ?_ (.xd e a0)
       simp[Instr.sliceAt,run_underlying hu,Instr.slice,hb,run_sizeOf hs]
      ·cases he
       obtain⟨k1,k2,k3⟩:=FE (lo:=l) (hi:=hh) (cap:=cap) (m:=hh.toNat) wg Nb Sd h0 h1 h2 (by omega) (by omega)
       have hb:=jE (P:=c.P) (isS:=true) (len:=s.length) (cap:=cap) (mx:=some (.int km hh)) (m:=hh.toNat) Ko KJ (.inr ⟨km,by rw[em]⟩) h0 h1 (by omega) (by omega) κ.w
       have hlen:=(rI h0 h1 h2).1
       refine qx.pure hI ?_ (.tight e (va l hh s) false blk _ _ nofun wg k1 k2)
       simp only[Instr.sliceAt,Sem.run_bind,run_underlying hu,Result.andThen_ok,Instr.slice,hb,run_sizeOf hs,Sem.run_pure,hlen]
       congr 3
       split<;>simp[vx]
     ·exact absurd h zf
  ·exact absurd h zf
 ·rename_i e s ne
  split at h
  ·rename_i et l hh het hl hh'
   have hu:=uq het
   cases ht:k9 c et e with
   | false=>rw[ht]at h; exact absurd h zf
   | true =>
    obtain⟨hs,_⟩:=vr ht
    rw[ht,cond_true,vv]at h
    obtain⟨⟨h0,h1,h2⟩,rfl,rfl⟩:=h
    have e1:=Zn hmx
    subst e1
    have Ko:=Uw hl hlo
    have KJ:(vh=none/\(none:Option Value)=none/\hh=(s.length:Int))\/∃ k,vh=some (.int k hh):=fg (Hc hh' hhi) (λh=>⟨h.1,rfl,h.2⟩) id
    cases hx _ rfl with
    | xd _ a0 =>
     simp only[List.length_nil,Int.cast_ofNat_Int]at h2
     have hb:=jE (P:=c.P) (isS:=true) (len:=0) (cap:=0) (mx:=none) (m:=0) Ko KJ (.inl ⟨rfl,rfl⟩) h0 h1 h2 (Nat.le_refl _) κ.w
     have e0:l=0:=by omega
     have e2:hh=0:=by omega
     subst e0 e2
     refine qx.pure hI (v:=.slice a0 0 0) ?_ (.nB rfl (.fO e a0))
     simp[Instr.sliceAt,run_underlying hu,Instr.slice,hb,run_sizeOf hs]
    | tight _ _ _ blk off f vM wg Nb Sd =>
     obtain⟨k1,k2,k3⟩:=FE (lo:=l) (hi:=hh) (cap:=s.length) (m:=s.length) wg Nb Sd h0 h1 h2 (by omega) (Nat.le_refl _)
     have hb:=jE (P:=c.P) (isS:=true) (len:=s.length) (cap:=s.length) (mx:=none) (m:=s.length) Ko KJ (.inl ⟨rfl,rfl⟩) h0 h1 (by omega) (Nat.le_refl _) κ.w
     have hlen:=(rI h0 h1 h2).1
     refine qx.pure hI ?_ (.nB rfl (.sl e (va l hh s) blk _ (s.length-l.toNat) _ wg k3 k1 k2))
     simp only[Instr.sliceAt,Sem.run_bind,run_underlying hu,Result.andThen_ok,Instr.slice,hb,run_sizeOf hs,Sem.run_pure,hlen]
     congr 3
     split<;>simp[vx]
  ·exact absurd h zf
 ·rename_i b qA e off len
  split at h
  ·rename_i et l hh het hl hh'
   have hu:=uq het
   cases ht:k9 c et e with
   | false=>rw[ht]at h; exact absurd h zf
   | true =>
    obtain⟨hs,_⟩:=vr ht
    rw[ht,cond_true,vv]at h
    obtain⟨⟨h0,h1,h2⟩,rfl,rfl⟩:=h
    have e1:=Zn hmx
    subst e1
    have Ko:=Uw hl hlo
    have KJ:(vh=none/\(none:Option Value)=none/\hh=(len:Int))\/∃ k,vh=some (.int k hh):=fg (Hc hh' hhi) (λh=>⟨h.1,rfl,h.2⟩) id
    cases hx _ rfl with
    | ms _ _ _ _ _ cap a hold vc ha pR hm =>
     have hb:=jE (P:=c.P) (isS:=true) (len:=len) (cap:=cap) (mx:=none) (m:=cap) Ko KJ (.inl ⟨rfl,rfl⟩) h0 h1 (by omega) (Nat.le_refl _) κ.w
     refine qx.pure hI (v:=.slice (if cap=l.toNat then a else a.map (·.add (l.toNat*e.size))) (hh.toNat-l.toNat) (cap-l.toNat)) ?_ (.ms b qA e _ _ _ _ hold (by omega) ?_ ?_ ?_)
     ·simp only[Instr.sliceAt,Sem.run_bind,run_underlying hu,Result.andThen_ok,Instr.slice,hb,run_sizeOf hs,Sem.run_pure]
     ·intro hn
      split at hn
      ·have:=ha hn; omega
      ·cases a with | none=>have:=ha rfl; omega | some p=>cases hn
     ·intro p hp
      split at hp
      ·exact pR p hp
      ·cases a with
       | none=>cases hp
       | some q =>
        obtain⟨q1,q2,q3⟩:=q
        have:=pR _ rfl
        simp only at this
        subst this
        simp only[Option.map_some,vx,Option.some.injEq]at hp
        subst hp; rfl
     ·intro xs V9
      obtain⟨hle,⟨rfl,rfl,hv,hp⟩ | ⟨lW,n',o',Ew,h3,h4,h5,h6,h7⟩⟩:=hm xs V9
      ·cases hv
       have e0:l=0:=by omega
       have e2:hh=0:=by omega
       subst e0 e2
       exact⟨by simp,.inl ⟨rfl,rfl,rfl,hp⟩⟩
      ·cases h4
       refine⟨by omega,.inr ?_⟩
       by_cases WS:cap=l.toNat
       ·refine⟨lW,n',o',0,h3,?_,by omega,?_,.inl rfl⟩
        ·simp[WS]
        ·have:(off+l.toNat+0)=off+cap:=by omega
         rw[this]; exact h6
       ·refine⟨lW,n',o'+l.toNat*e.size,cap-l.toNat,h3,?_,by omega,?_,.inr ?_⟩
        ·simp[WS,vx]
        ·have:off+l.toNat+(cap-l.toNat)=off+cap:=by omega
         rw[this]; exact h6
        ·rcases h7 with h7 | h7
         ·omega
         ·rw[h7,Nat.add_mul]
  ·exact absurd h zf
 ·exact absurd h zf
end
end Go.AM
namespace Go.AM
set_option linter.unusedSectionVars false
variable [vX]
section
variable {c:Ctx} {κ:KS}
theorem pD(op:BinOp)(t:Nat)(x y:Operand)(k k':IntKind)(a b:Int)(P:Program)(w:World):(eqGuard op t x y (.int k a) (.int k' b)).run P w=.ok () w:=by
 unfold eqGuard; split<;>simp
theorem Cl(op:BinOp)(t:Nat)(x y:Operand)(a b:ByteArray)(P:Program)(w:World):(eqGuard op t x y (.string a) (.string b)).run P w=.ok () w:=by
 unfold eqGuard; split<;>simp
theorem Hp(op:BinOp)(t:Nat)(x y:Operand)(a b:Bool)(P:Program)(w:World):(eqGuard op t x y (.bool a) (.bool b)).run P w=.ok () w:=by
 unfold eqGuard; split<;>simp
theorem lX{k:IntKind}{n:Int}{st zt:St}{d:Option D}:(zH (ib k n) st).leads (d,zt)↔d=some (.zI (.int k) n)/\zt=st:=jY
theorem pw{b:Bool}{st zt:St}{d:Option D}:(zH (bb b) st).leads (d,zt)↔d=some (.zI .bool b)/\zt=st:=jY
theorem I1{op:BinOp}{k:IntKind}{a b:Int}{d:Option D}{st zt:St}{t:Nat}(h:(zH (Fx op k a b) st).leads (d,zt))(hs:V3 op=false) :
  ∃ y v,d=some y/\zt=st/\(binOp op t (.int k a) (.int k b)).run c.P κ.w=.ok v κ.w/\RD κ y v:=by
 cases op<;>simp only[Fx]at h<;>try (exact absurd h zf)
 all_goals first
  | (rw[lX]at h; obtain⟨rfl,rfl⟩:=h; exact⟨_,_,rfl,rfl,by simp[binOp,Op.intArith,Op.intBits,pH],RD.int⟩)
  | (rw[pw]at h; obtain⟨rfl,rfl⟩:=h; exact⟨_,_,rfl,rfl,by simp[binOp,Op.intCmp],RD.bool⟩)
  | (rw[vv]at h; obtain⟨hb,rfl,rfl⟩:=h; exact⟨_,_,rfl,rfl,by simp[binOp,Op.intDiv,hb],RD.int⟩)
theorem JL(s:ze):(⟨s.toArray⟩:ByteArray).toList=s:=by simp
theorem EN{op:BinOp}{a b:ze}{d:Option D}{st zt:St}{t:Nat}(h:(zH (F4 op a b) st).leads (d,zt))(hs:V3 op=false) :
  ∃ y v,d=some y/\zt=st/\(binOp op t (.string ⟨a.toArray⟩) (.string ⟨b.toArray⟩)).run c.P κ.w=.ok v κ.w/\RD κ y v:=by
 have uH:∀ s:ze,(⟨s.toArray⟩:ByteArray).size=s.length:=λ_=>rfl
 cases op<;>simp only[F4]at h<;>try (exact absurd h zf)
 case add =>
  rw[vv]at h; obtain⟨hb,rfl,rfl⟩:=h
  refine⟨_,_,rfl,rfl,?_,RD.str⟩
  have e:(⟨a.toArray⟩++⟨b.toArray⟩:ByteArray)=⟨(cat a b).toArray⟩:=by
   rfl
  have hn:¬ (IntKind.i64.max<((a.length+b.length:Nat):Int)):=by
   have:IntKind.i64.max=9223372036854775807:=by decide
   omega
  simp only[binOp,Op.stringOp,uH,hn]
  rfl
 all_goals (rw[pw]at h; obtain⟨rfl,rfl⟩:=h; exact⟨_,_,rfl,rfl,by simp[binOp,Op.stringOp,zh,strLt],RD.bool⟩)
theorem Ia{P:Program}{t:Nat}(hu:P.underlying t=some .bool)(a b:Bool)(w:World):(Op.equal t (.bool a) (.bool b)).run P w=.ok (a==b) w:=by
 show(Op.equalIn (9999+1) t _ _).run P w=_
 rw[Op.equalIn]
 simp[run_underlying hu]
theorem ED{a:Ty}{t:Nat}(h:z4L c a t=true):(∃ k,a=.int k/\c.P.underlying t=some (.int k))\/(a=.bool/\c.P.underlying t=some .bool)\/(a=.str/\c.P.underlying t=some .string):=by
 unfold z4L at h
 grind
theorem F1{P:Program}{t:Nat}{u:TypeDesc}(h:P.underlying t=some u)(hn:(match u with | .struct _ | .array _ _=>true | _=>false)=false)(w:World):(isAgg t).run P w=.ok false w:=by
 simp only[isAgg,Sem.run_bind,run_underlying h]
 cases u<;>first | rfl | cases hn
theorem bw{P:Program}{t:Nat}{u:TypeDesc}(h:P.underlying t=some u)(hn:(match u with | .struct _ | .array _ _=>true | _=>false)=false)(pre:List Value)(v:Value)(cs:List Value)(w:World) :
  (part t (pre++v::cs).toArray pre.length).run P w=.ok v w:=by
 simp only[part,Sem.run_bind,F1 h hn]
 simp
theorem ZN{w:World}{ok:Nat->Prop}(dp:Nat):∀ (τ:Ty) (a b:den τ) (off:Nat) (fs:List Field) (pre Uc cs bS:List Value),Zy c τ off fs=true->Rc w ok τ a cs->Rc w ok τ b bS->pre.length=off->Uc.length=off ->
  (Op.eqFields (dp+1) (pre++cs).toArray (Uc++bS).toArray fs).run c.P w=.ok (eqT τ a b) w
 | .nil,_,_,_,fs,pre,Uc,cs,bS,h,_,_,_,_=>by
  cases fs with
  | nil=>rfl
  | cons f fs=>cases h
 | .cons a r,x,y,off,fs,pre,Uc,cs,bS,h,hx,hy,hp,hp'=>by
  cases fs with
  | nil=>cases h
  | cons f fs =>
   have h:(decide (f.name ≠ "_")&&(Nat.beq f.offset off&&(z4L c a f.type&&Zy c r (off+1) fs)))=true:=h
   simp only[Bool.and_eq_true,decide_eq_true_eq]at h
   obtain⟨h1,h2,h3,h4⟩:=h
   have h2:=Nat.eq_of_beq_eq_true h2
   obtain⟨c1,c2,rfl,g1,g2⟩:=hx.cons_inv
   obtain⟨e1,e2,rfl,k1,k2⟩:=hy.cons_inv
   have ih:=λv v'=>ZN dp r x.2 y.2 (off+1) fs (pre++[v]) (Uc++[v']) c2 e2 h4 g2 k2 (by simp[hp]) (by simp[hp'])
   have fin:∀ (v v':Value) (q:Bool),c1=[v]->e1=[v']->(part f.type (pre++v::c2).toArray f.offset).run c.P w=.ok v w->(part f.type (Uc++v'::e2).toArray f.offset).run c.P w=.ok v' w->(Op.equalIn (dp+1) f.type v v').run c.P w=.ok q w->eqT a x.1 y.1=q ->
     (Op.eqFields (dp+1) (pre++(c1++c2)).toArray (Uc++(e1++e2)).toArray (f::fs)).run c.P w=.ok (eqT (.cons a r) x y) w:=by
    rintro v v' q rfl rfl p1 p2 p3 p4
    show(Op.eqFields (dp+1) (pre++v::c2).toArray (Uc++v'::e2).toArray (f::fs)).run c.P w=.ok (eqT a x.1 y.1&&eqT r x.2 y.2) w
    rw[Op.eqFields,if_pos h1]
    simp only[Sem.run_bind,p1,p2,p3,Result.andThen_ok]
    rw[p4]
    cases q with
    | false=>rfl
    | true =>
     grind
   subst hp
   rcases ED h3 with⟨k,rfl,hu⟩ | ⟨rfl,hu⟩ | ⟨rfl,hu⟩
   ·exact fin _ _ _ g1.ym k1.ym (by rw[h2]; exact bw hu rfl pre _ c2 w) (by rw[h2,<- hp']; exact bw hu rfl Uc _ e2 w) (run_equalIn_int w dp _ k k _ _ hu) rfl
   ·exact fin _ _ _ g1.jL k1.jL (by rw[h2]; exact bw hu rfl pre _ c2 w) (by rw[h2,<- hp']; exact bw hu rfl Uc _ e2 w) (run_equalIn_bool' w dp _ _ _ hu) rfl
   ·refine fin _ _ _ g1.wC k1.wC (by rw[h2]; exact bw hu rfl pre _ c2 w) (by rw[h2,<- hp']; exact bw hu rfl Uc _ e2 w) (run_equalIn_string w dp _ _ _ hu) ?_
    rw[JL,JL]
    rfl
 | .int _,_,_,_,_,_,_,_,_,h,_,_,_,_=>by simp[Zy]at h
 | .bool,_,_,_,_,_,_,_,_,h,_,_,_,_=>by simp[Zy]at h
 | .str,_,_,_,_,_,_,_,_,h,_,_,_,_=>by simp[Zy]at h
 | .sl _,_,_,_,_,_,_,_,_,h,_,_,_,_=>by simp[Zy]at h
 | .expr,_,_,_,_,_,_,_,_,h,_,_,_,_=>by simp[Zy]at h
theorem Ei{op:BinOp}{t:Nat}{px py:Operand}{x y:Option D}{v u:Value}{d:Option D}{zt:St}(hI:Inv κ)(hx:∀ z,x=some z->RD κ z v)(hy:∀ z,y=some z->RD κ z u)
  (h:(zH (T0 c op t x y) κ.st).leads (d,zt)):qx c.P (do Pure.pure (.value (<- (do eqGuard op t px py v u; binOp op t v u)))) κ d zt:=by
 unfold T0 at h
 split at h
 ·rename_i τ a σ b
  split at h
  ·rename_i b' hb
   unfold wP at hb
   split at hb
   ·rename_i e
    subst e
    injection hb with hb
    subst hb
    cases hg:σ.isAgg&&Je c σ t with
    | false=>rw[hg]at h; exact absurd h zf
    | true =>
     rw[hg,cond_true]at h
     rw[Bool.and_eq_true]at hg
     obtain⟨SH,hso⟩:=hg
     unfold Je at hso
     split at hso
     ·rename_i fs hu
      simp at hso
      obtain⟨f1,f2,f3⟩:=hso
      have hfo:c.P.fieldsOf t=fs:=by unfold Program.fieldsOf; rw[hu]
      cases hx _ rfl with
      | zI _ _ cs g1 =>
      cases hy _ rfl with
      | zI _ _ bS g2 =>
       have e1:pk σ cs=.agg cs.toArray:=by unfold pk; rw[if_pos SH]
       have e2:pk σ bS=.agg bS.toArray:=by unfold pk; rw[if_pos SH]
       have hr:=ZN (c:=c) 9998 σ a b 0 fs.toList [] [] cs bS f1 g1 g2 rfl rfl
       have hq:(Op.equalIn 10000 t (.agg cs.toArray) (.agg bS.toArray)).run c.P κ.w=.ok (eqT σ a b) κ.w:=by
        rw[show(10000:Nat)=9999+1 from rfl,run_equalIn_agg κ.w 9999 t _ _ (by grind) f2,hfo]
        exact hr
       rw[e1,e2]
       cases op<;>try (exact absurd h zf)
       ·rw[pw]at h; obtain⟨rfl,rfl⟩:=h
        refine qx.pure hI ?_ RD.bool
        simp only[Sem.run_bind,run_eqGuard_agg κ.w _ t px py _ _ f3,Result.andThen_ok,run_eql_struct,hq]
       ·rw[pw]at h; obtain⟨rfl,rfl⟩:=h
        refine qx.pure hI ?_ RD.bool
        simp only[Sem.run_bind,run_eqGuard_agg κ.w _ t px py _ _ f3,Result.andThen_ok,run_neq_struct,hq]
     ·cases hso
   ·cases hb
  ·exact absurd h zf
 ·exact absurd h zf
theorem R0{op:BinOp}{t:Nat}{px py:Operand}{x y:Option D}{v u:Value}{d:Option D}{zt:St}(hI:Inv κ)(hx:∀ z,x=some z->RD κ z v)(hy:∀ z,y=some z->RD κ z u)
  (h:(zH (EA c op t x y) κ.st).leads (d,zt)):qx c.P (do Pure.pure (.value (<- (do eqGuard op t px py v u; binOp op t v u)))) κ d zt:=by
 unfold EA at h
 split at h
 ·rename_i k a k' b hk Gy
  have:=uj hk hx
  subst this
  have:=uj Gy hy
  subst this
  split at h
  ·rw[vv]at h
   obtain⟨hb,rfl,rfl⟩:=h
   refine qx.pure hI ?_ RD.int
   simp only[Sem.run_bind,pD,Result.andThen_ok,binOp,Op.shift,if_neg (show ¬ b<0 by omega)]
   rfl
  ·rw[vv]at h
   obtain⟨hb,rfl,rfl⟩:=h
   refine qx.pure hI ?_ RD.int
   simp only[Sem.run_bind,pD,Result.andThen_ok,binOp,Op.shift,if_neg (show ¬ b<0 by omega)]
   rfl
  ·rename_i n1 n2
   cases he:decide (k=k')with
   | false=>rw[he]at h; exact absurd h zf
   | true =>
    have TX:=of_decide_eq_true he
    subst TX
    rw[he,cond_true]at h
    obtain⟨y',v',rfl,rfl,h1,h2⟩:=I1 (c:=c) (κ:=κ) (t:=t) h (by cases op<;>first | rfl | (exact absurd rfl n1) | (exact absurd rfl n2))
    exact qx.pure hI (by simp only[Sem.run_bind,pD,Result.andThen_ok,h1]) h2
 ·split at h
  ·rename_i a b ha hb
   have:=oG ha hx
   subst this
   have:=oG hb hy
   subst this
   cases hs:V3 op with
   | true=>rw[hs]at h; exact absurd h zf
   | false =>
    rw[hs,cond_false]at h
    obtain⟨y',v',rfl,rfl,h1,h2⟩:=EN (c:=c) (κ:=κ) (t:=t) h hs
    exact qx.pure hI (by simp only[Sem.run_bind,Cl,Result.andThen_ok,h1]) h2
  ·split at h
   ·rename_i a b hu ha hb
    have:=sa ha hx
    subst this
    have:=sa hb hy
    subst this
    cases op<;>simp only[RG]at h<;>try (exact absurd h zf)
    all_goals
     rw[pw]at h; obtain⟨rfl,rfl⟩:=h
     refine qx.pure hI ?_ RD.bool
     simp only[Sem.run_bind,Hp,Result.andThen_ok,binOp,Ia hu,Sem.run_pure]
   ·exact Ei hI hx hy h
theorem z2I{op:UnOp}{x:Option D}{v:Value}{d:Option D}{zt:St}(hI:Inv κ)(hx:∀ z,x=some z->RD κ z v)
  (h:(zH (z0C op x) κ.st).leads (d,zt)):qx c.P (do Pure.pure (.value (<- Op.unary op v))) κ d zt:=by
 unfold z0C at h
 split at h
 ·split at h
  ·rename_i k n hk
   have:=uj hk hx
   subst this
   obtain⟨rfl,rfl⟩:=h
   exact qx.pure hI (by rfl) RD.int
  ·exact absurd h zf
 ·split at h
  ·rename_i b hb
   have:=sa hb hx
   subst this
   obtain⟨rfl,rfl⟩:=h
   exact qx.pure hI (by rfl) RD.bool
  ·exact absurd h zf
 ·split at h
  ·rename_i k n hk
   have:=uj hk hx
   subst this
   obtain⟨rfl,rfl⟩:=h
   exact qx.pure hI (by rfl) RD.int
  ·exact absurd h zf
 ·exact absurd h zf
theorem z3y{t ty:Nat}{ts:Array Nat}{x:Option D}{v:Value}{vs:Array Value}{d:Option D}{zt:St}(hI:Inv κ)(hx:∀ z,x=some z->RD κ z v)(ht:ts[0]? = some t)(hv:vs[0]? = some v)
  (h:(zH (Pl c t x) κ.st).leads (d,zt)):qx c.P (do Pure.pure (.value (<- Builtin.len_ ts ty vs))) κ d zt:=by
 unfold Pl at h
 split at h
 ·rename_i e hu
  have key:∀ (n:Nat) (a:Option Addr) (cap:Nat),v=.slice a n cap->d=some (.zI (.int .i64) (n:Int))->zt=κ.st->qx c.P (do Pure.pure (.value (<- Builtin.len_ ts ty vs))) κ d zt:=by
   rintro n a cap rfl rfl rfl
   exact qx.pure hI (by simp[Builtin.len_,ht,hv,run_underlying hu,goInt]) RD.int
  split at h
  ·rename_i e' l
   rw[lX]at h
   rcases((hx _ rfl).vi rfl).Xf with⟨rfl,a0,he⟩ | ⟨blk,off,cap,f,he,_⟩
   ·grind
   ·grind
  ·rename_i e' l ne
   rw[lX]at h
   cases hx _ rfl with
   | xd _ a0=>grind
   | tight=>grind
  ·rw[lX]at h
   cases hx _ rfl
   grind
  ·rw[lX]at h
   cases hx _ rfl
   grind
  ·exact absurd h zf
 ·rename_i hu
  split at h
  ·rename_i s hs
   have:=oG hs hx
   subst this
   obtain⟨rfl,rfl⟩:=h
   have uH:(⟨s.toArray⟩:ByteArray).size=s.length:=rfl
   exact qx.pure hI (by simp only[Builtin.len_,ht,hv,Sem.run_bind,run_underlying hu,Result.andThen_ok,goInt,uH,Sem.run_pure]) RD.int
  ·exact absurd h zf
 ·exact absurd h zf
theorem EZ{f:Int->Int->Int}{g:Value->Value->Sem Value}{P:Program}(hg:∀ k k' a b,(g (.int k a) (.int k' b)).run P κ.w=.ok (.int k (f a b)) κ.w){x y:Option D}{v u:Value}{d:Option D}{zt:St}
  (hI:Inv κ) (hx:∀ z,x=some z->RD κ z v) (hy:∀ z,y=some z->RD κ z u) (h:(zH (UP f [x,y]) κ.st).leads (d,zt)) :
  ∃ r,(g v u).run P κ.w=.ok r κ.w/\zt=κ.st/\∀ d',d=some d'->RD κ d' r:=by
 unfold UP at h
 simp only at h
 split at h
 ·rename_i k a k' b hk Gy
  have:=uj hk hx
  subst this
  have:=uj Gy hy
  subst this
  cases he:decide (k=k')with
  | false=>rw[he]at h; exact absurd h zf
  | true =>
   rw[he,cond_true,lX]at h
   obtain⟨rfl,rfl⟩:=h
   exact⟨_,hg k k' a b,rfl,λd' he=>by cases he; exact RD.int⟩
 ·exact absurd h zf
theorem B8{x:Option D}{i:Nat}{v:Value}{d:Option D}{zt:St}(hI:Inv κ)(hx:∀ z,x=some z->RD κ z v)
  (h:(zH (Xq x i) κ.st).leads (d,zt)):qx c.P (do Pure.pure (.value (<- Instr.extract v i))) κ d zt:=by
 unfold Xq at h
 split at h
 ·rename_i vs
  obtain⟨y,hy,rfl,rfl⟩:=Jq h
  cases hx _ rfl with
  | yq _ us hl hh =>
   obtain⟨u,h1,h2⟩:=qE.get (⟨hl,hh⟩:qE κ vs us) hy
   exact qx.pure hI (by simp[Instr.extract,h1]) h2
 ·exact absurd h zf
theorem dw:∀ {l:List (Option D)} {ds:List D},uy l=some ds->l=ds.map some
 | [],ds,h=>by simp[uy]at h; subst h; rfl
 | some d::r,ds,h=>by
  simp only[uy]at h
  split at h
  ·rename_i l hl; cases h; simp[dw hl]
  ·cases h
 | none::r,ds,h=>by simp[uy]at h
theorem yQ{l:List (Option D)}{ds:List D}{vs:List Value}(h:uy l=some ds)(hl:l.length=vs.length)
  (hr:∀ (i:Nat) (d:D) (v:Value),l[i]? = some (some d)->vs[i]? = some v->RD κ d v):qE κ ds vs:=by
 have:=dw h
 subst this
 refine⟨by grind,λi h1 h2=>hr i _ _ ?_ (List.getElem?_eq_getElem h2)⟩
 simp
end
end Go.AM
namespace Go.AM
namespace T
variable {α β γ:Type}
theorem bD{t:T α}{x y:α}(h:t.leads x)(k:t.leads y):x=y:=by
 induction t with
 | ret a=>exact h.symm.trans k
 | ite b p q ip iq =>
  rcases h with⟨h1,h⟩ | ⟨h1,h⟩<;>rcases k with⟨k1,k⟩ | ⟨k1,k⟩
  ·grind
  ·grind
  ·grind
  ·grind
 | zL p t ih=>exact ih h.2 k.2
 | fail=>exact h.elim
theorem zd{t:T α}{f:α->T β}{x:β}:(t.bind f).leads x↔∃ a,t.leads a/\(f a).leads x:=by
 induction t with
 | ret a=>exact⟨λh=>⟨a,rfl,h⟩,λ⟨b,h,k⟩=>by cases h; exact k⟩
 | ite b p q ip iq =>
  constructor
  ·rintro(⟨h1,h⟩ | ⟨h1,h⟩)
   ·obtain⟨a,k1,k2⟩:=ip.1 h; exact⟨a,.inl ⟨h1,k1⟩,k2⟩
   ·obtain⟨a,k1,k2⟩:=iq.1 h; exact⟨a,.inr ⟨h1,k1⟩,k2⟩
  ·rintro⟨a,⟨h1,k1⟩ | ⟨h1,k1⟩,k2⟩
   ·exact .inl ⟨h1,ip.2 ⟨a,k1,k2⟩⟩
   ·exact .inr ⟨h1,iq.2 ⟨a,k1,k2⟩⟩
 | zL p t ih =>
  constructor
  ·rintro⟨h1,h⟩; obtain⟨a,k1,k2⟩:=ih.1 h; exact⟨a,⟨h1,k1⟩,k2⟩
  ·rintro⟨a,⟨h1,k1⟩,k2⟩; exact⟨h1,ih.2 ⟨a,k1,k2⟩⟩
 | fail=>exact⟨λh=>h.elim,λ⟨_,h,_⟩=>h.elim⟩
open Classical in
noncomputable def run:T α->Option α
 | ret a=>some a
 | ite b t e=>bif b then t.run else e.run
 | zL p t=>if p then t.run else none
 | fail=>none
@[simp] theorem z7(a:α):(ret a).run=some a:=rfl
@[simp] theorem zcW:(fail:T α).run=none:=rfl
theorem run_ite(b:Bool)(t e:T α):(ite b t e).run=if b=true then t.run else e.run:=by cases b<;>rfl
@[simp] theorem zj(t e:T α):(ite true t e).run=t.run:=rfl
@[simp] theorem zg(t e:T α):(ite false t e).run=e.run:=rfl
theorem zb{p:Prop}(h:p)(t:T α):(zL p t).run=t.run:=by simp only[run,if_pos h]
theorem za{b:Bool}(h:b=true)(t e:T α):(ite b t e).run=t.run:=by rw[h]; rfl
theorem z8{b:Bool}(h:b=false)(t e:T α):(ite b t e).run=e.run:=by rw[h]; rfl
theorem wq{t:T α}{x:α}:t.run=some x↔t.leads x:=by
 induction t with
 | ret a=>simp[leads]
 | ite b p q ip iq=>cases b<;>simp[leads,ip,iq]
 | zL p t ih=>by_cases h:p<;>simp[run,leads,ih]
 | fail=>simp[leads]
theorem run_bind(t:T α)(f:α->T β):(t.bind f).run=t.run.bind λa=>(f a).run:=by
 induction t with
 | ret a=>rfl
 | ite b p q ip iq=>cases b<;>simp[bind,ip,iq]
 | zL p t ih=>by_cases h:p<;>simp[run,bind,h,ih]
 | fail=>rfl
theorem z6{t:T α}{a:α}(h:t.run=some a)(f:α->T β):(t.bind f).run=(f a).run:=by rw[run_bind,h]; rfl
section loop
variable {σ ρ:Type} (r:σ->T (σ⊕ρ))
inductive Iter:Nat->σ->ρ->Prop
 | done {s:σ} {x:ρ} (h:(r s).leads (.inr x)):Iter 0 s x
 | step {n:Nat} {s s':σ} {x:ρ} (h:(r s).leads (.inl s')) (k:Iter n s' x):Iter (n+1) s x
theorem Iter.det{r:σ->T (σ⊕ρ)}{n m:Nat}{s:σ}{x y:ρ}(h:Iter r n s x)(k:Iter r m s y):x=y:=by
 induction h generalizing m y with
 | done h =>
  cases k with
  | done k=>have:=bD h k; cases this; rfl
  | step k _=>have:=bD h k; cases this
 | step h _ ih =>
  cases k with
  | done k=>have:=bD h k; cases this
  | step k k2=>have:=bD h k; cases this; exact ih k2
open Classical in
noncomputable def loop (s:σ):T ρ:=if h:∃ x n,Iter r n s x then .ret h.choose else .fail
theorem eY{s:σ}{x:ρ}:(loop r s).leads x↔∃ n,Iter r n s x:=by
 unfold loop
 split
 ·rename_i h
  obtain⟨n,hn⟩:=h.choose_spec
  constructor
  ·intro hx; cases hx; exact⟨n,hn⟩
  ·rintro⟨m,hm⟩; exact hn.det hm
 ·rename_i h
  exact⟨λk=>k.elim,λ⟨n,hn⟩=>h ⟨x,n,hn⟩⟩
theorem vI{r:σ->T (σ⊕ρ)}(I:σ->Prop)(μ:σ->Nat)(f:σ->ρ)
  (h:∀ s,I s->(∃ s',(r s).run=some (.inl s')/\I s'/\μ s'<μ s/\f s'=f s)\/(r s).run=some (.inr (f s))) {s:σ} (hs:I s):(loop r s).run=some (f s):=by
 rw[wq,eY]
 generalize hm:μ s=m
 induction m using Nat.strongRecOn generalizing s with
 | _ m ih =>
  rcases h s hs with⟨s',h1,h2,h3,h4⟩ | h1
  ·obtain⟨n,hn⟩:=ih (μ s') (by omega) h2 rfl
   exact⟨n+1,.step (wq.1 h1) (h4▸hn)⟩
  ·exact⟨0,.done (wq.1 h1)⟩
theorem vu{r:σ->T (σ⊕ρ)}{s s':σ}(h:(r s).run=some (.inl s')):(loop r s).run=(loop r s').run:=by
 have h':=wq.1 h
 apply Option.ext
 intro x
 show(loop r s).run=some x↔(loop r s').run=some x
 rw[wq,wq,eY,eY]
 constructor
 ·rintro⟨n,hn⟩
  cases hn with
  | done k=>have:=bD h' k; cases this
  | step k k2=>have:=bD h' k; cases this; exact⟨_,k2⟩
 ·rintro⟨n,hn⟩; exact⟨n+1,.step h' hn⟩
theorem qz{r:σ->T (σ⊕ρ)}{s:σ}{x:ρ}(h:(r s).run=some (.inr x)):(loop r s).run=some x:=by
 rw[wq,eY]; exact⟨0,.done (wq.1 h)⟩
end loop
section fix
variable {σ ρ:Type} (b:(σ->T ρ)->σ->T ρ)
def BF:Nat->σ->T ρ
 | 0,_=>.fail
 | n+1,x=>b (BF n) x
open Classical in
noncomputable def fix (x:σ):T ρ:=if h:∃ y n,∀ m,n<=m->(BF b m x).leads y then .ret h.choose else .fail
theorem lN{x:σ}{y:ρ}:(fix b x).leads y↔∃ n,∀ m,n<=m->(BF b m x).leads y:=by
 unfold fix
 split
 ·rename_i h
  obtain⟨n,hn⟩:=h.choose_spec
  constructor
  ·intro hx; cases hx; exact⟨n,hn⟩
  ·rintro⟨k,hk⟩; exact bD (hn (max n k) (by omega)) (hk (max n k) (by omega))
 ·rename_i h
  exact⟨λk=>k.elim,λ⟨n,hn⟩=>h ⟨y,n,hn⟩⟩
theorem fJ{b:(σ->T ρ)->σ->T ρ}(I:σ->Prop)(μ:σ->Nat)(f:σ->ρ)
  (h:∀ x,I x->∀ g:σ->T ρ,(∀ y,I y->μ y<μ x->(g y).run=some (f y))->(b g x).run=some (f x)) {x:σ} (hx:I x):(fix b x).run=some (f x):=by
 rw[wq,lN]
 refine⟨μ x+1,λm hm => ?_⟩
 induction m generalizing x with
 | zero=>omega
 | succ m ih =>
  rw[<- wq]
  refine h x hx (BF b m) λy hy qu => ?_
  rw[wq]
  exact ih hy (by omega)
end fix
def QD:T α->Option Prop
 | ret _=>none
 | ite b t e=>match t.QD,e.QD with
  | none,none=>none
  | some p,none=>some (b=true->p)
  | none,some q=>some (b=false->q)
  | some p,some q=>some ((b=true->p)/\(b=false->q))
 | zL p t=>match t.QD with
  | none=>some p
  | some q=>some (p/\q)
 | fail=>some False
def val(d:α):T α->α
 | ret a=>a
 | ite b t e=>bif b then t.val d else e.val d
 | zL _ t=>t.val d
 | fail=>d
def flat(d:α)(t:T α):T α:=match t.QD with
 | none=>.ret (t.val d)
 | some p=>.zL p (.ret (t.val d))
def WG(t:T α):Prop:=match t.QD with | none=>True | some p=>p
theorem U1(d:α)(t:T α)(x:α):t.leads x↔t.WG/\t.val d=x:=by
 induction t with
 | ret a=>simp[leads,WG,QD,val]
 | ite b p q ip iq =>
  cases b
  ·simp only[leads,val,iq]
   unfold WG
   simp only[QD]
   grind
  ·simp only[leads,val,ip]
   unfold WG
   simp only[QD]
   grind
 | zL p t ih =>
  simp only[leads,ih,val]
  unfold WG
  simp only[QD]
  grind
 | fail=>simp[leads,WG,QD]
end T
abbrev zF(x:Int):Int:=IntKind.wrap .i64 x
abbrev zO(x:Int):Int:=IntKind.wrap .u64 x
abbrev xR(x:Int):Int:=IntKind.wrap .u32 x
abbrev Bg(x:Int):Int:=IntKind.wrap .u8 x
def ux(qA off len n:Nat):Prop:=qA=n/\off=0/\len=n
def qw(i:Int)(n:Nat):Prop:=0<=i/\i<(n:Int)
def n9(qA jQ idx n:Nat):Prop:=qA=jQ/\idx<n
def YJ(qA jQ off len n m bytes:Nat):Prop:=qA=jQ/\off=0/\len=n/\(n+m)*bytes<=140737488355328
def yY(l h:Int)(n:Nat):Prop:=0<=l/\l<=h/\h<=(n:Int)
def jS(l:ze):Nat->ze
 | 0=>[]
 | c+1=>l++jS l c
def VK(u:Nat):ze:=if h:u<10 then[UInt8.ofNat (48+u)]else VK (u / 10)++[UInt8.ofNat (48+u % 10)]
termination_by u
decreasing_by omega
def cQ(n:Int):ze:=if n<0 then 45::VK n.natAbs else VK n.toNat
def cV:ze->ze->Int
 | [],sub=>if sub.isEmpty then 0 else -1
 | b::l,sub=>if sub.isPrefixOf (b::l)then 0 else if cV l sub == -1 then -1 else cV l sub+1
def o0:ze->UInt8->Int
 | [],_ => -1
 | b::l,c=>if b==c then 0 else if o0 l c == -1 then -1 else o0 l c+1
def wT(s sep:ze):ze×ze×Bool:=if 0<=cV s sep then(s.take (cV s sep).toNat,s.drop ((cV s sep).toNat+sep.length),true)else(s,[],false)
def cW(s p:ze):ze:=if List.isPrefixOf p s=true then s.drop p.length else s
def cI(s:ze):den (di .bool 256):=NZ (e:=.bool) (λj=>s.contains (UInt8.ofNat j)) 256 0
def z56(v v' o l n:Nat):Prop:=v=v'/\o+l<=n
def QU(n m:Int)(bytes:Nat):Prop:=0<=n/\n<=m/\m*bytes<=140737488355328/\m<=140737488355328
def nth{α:Type}(l:List α)(i:Int)(d:α):α:=List.getD l i.toNat d
def yE{α:Type}(l:List α)(i:Nat)(d:α):α:=List.getD l i d
def qo(s:ze)(i:Int):Int:=((List.getD s i.toNat 0).toNat:Int)
def FC(k:IntKind)(x y:Int):Int:=pH k (· &&& ·) x y
def Z6(k:IntKind)(x y:Int):Int:=pH k (· ||| ·) x y
def Fp(k:IntKind)(x y:Int):Int:=pH k (· ^^^ ·) x y
theorem bZ{l h:Int}{n:Nat}:yY l h n↔0<=l/\l<=h/\h<=(n:Int):=by rfl
def z3r(l:List Int):T (ze×Unit):=.zL ((∀ n∈l,(0:Int)<=n/\n<256)/\List.length l<=140737488355328) (.ret (qG l,()))
end Go.AM
namespace Go.AM
def Ok(b:UInt8):List ze->List ze
 | []=>[[b]]
 | x::y=>(b::x)::y
def jv(c:UInt8):ze->List ze
 | []=>[[]]
 | b::r=>if b=c then[]::jv c r else Ok b (jv c r)
def xC(c:UInt8):ze->ze->List ze
 | cur,[]=>if cur=[]then[]else[cur]
 | cur,b::r=>if b=c then(if cur=[]then xC c [] r else cur::xC c [] r)else xC c (cur++[b]) r
def gW:ze->ze->Int
 | [],_ => -1
 | b::l,chars=>if chars.contains b then 0 else if gW l chars == -1 then -1 else gW l chars+1
abbrev oI{A R:Type}(i:Int)(l:List A)(t:T R):T R:=.zL (qw i l.length) t
abbrev oE{A R:Type}(l:List A)(t:T R):T R:=.zL (l.length=l.length) t
abbrev oC{A R:Type}(l:List A)(t:T R):T R:=.zL (ux l.length 0 l.length l.length) t
abbrev oM{R:Type}(a b:Nat)(t:T R):T R:=.zL (ux a 0 a b) (.zL (a=b) t)
abbrev oA{A R:Type}(l:List A)(k:Nat)(t:T R):T R:=.zL (YJ l.length l.length 0 l.length l.length 1 k) t
abbrev oK{R:Type}(a b:ze)(t:T R):T R:=.zL (a.length+b.length<=4611686018427387904) t
abbrev oZ{R:Type}(t:T R):T R:=.zL (ux 0 0 0 0) (.zL ((0:Nat)=0) t)
abbrev oV{A B C D E F R:Type}(a:List A)(b:List B)(c:List C)(d:List D)(e:List E)(f:List F)(t:T R):T R:=oC a (oC b (oC c (oC d (oC e (oC f t)))))
abbrev oW{A B C D E F R:Type}(a:List A)(b:List B)(c:List C)(d:List D)(e:List E)(f:List F)(t:T R):T R:=oE a (oE b (oE c (oE d (oE e (oE f t)))))
abbrev oY{A B C D E F R:Type}(a:List A)(b:List B)(c:List C)(d:List D)(e:List E)(f:List F)(t:T R):T R:=oV a b c d e f (oW a b c d e f t)
end Go.AM
namespace Go.AM
namespace T
variable {α β:Type}
attribute [simp] run_bind
@[simp] theorem y5(b:Bool)(t e:T α):(ite b t e).run=if b=true then t.run else e.run:=run_ite b t e
@[simp] theorem qp{i:Int}{n:Nat}(t:T α)(h1:0<=i)(h2:i<(n:Int)):(zL (qw i n) t).run=t.run:=zb ⟨h1,h2⟩ t
@[simp] theorem jG{v v' i n:Nat}(t:T α)(h1:v=v')(h2:i<n):(zL (n9 v v' i n) t).run=t.run:=zb ⟨h1,h2⟩ t
@[simp] theorem mK{v v' o l n m b:Nat}(t:T α)(h1:v=v')(h2:o=0)(h3:l=n)(h4:(n+m)*b<=140737488355328):(zL (YJ v v' o l n m b) t).run=t.run:=zb ⟨h1,h2,h3,h4⟩ t
@[simp] theorem zJ{v o l n:Nat}(t:T α)(h1:v=n)(h2:o=0)(h3:l=n):(zL (ux v o l n) t).run=t.run:=zb ⟨h1,h2,h3⟩ t
@[simp] theorem fh{l h:Int}{n:Nat}(t:T α)(h1:0<=l)(h2:l<=h)(h3:h<=(n:Int)):(zL (yY l h n) t).run=t.run:=zb ⟨h1,h2,h3⟩ t
@[simp] theorem run_mk{n m:Int}{b:Nat}(t:T α)(h1:0<=n)(h2:n<=m)(h3:m*b<=140737488355328)(h4:m<=140737488355328):(zL (QU n m b) t).run=t.run:=zb ⟨h1,h2,h3,h4⟩ t
@[simp] theorem z2z{v v' o l n:Nat}(t:T α)(h1:v=v')(h2:o+l<=n):(zL (z56 v v' o l n) t).run=t.run:=zb ⟨h1,h2⟩ t
@[simp] theorem vk{a b:Nat}(t:T α)(h:a=b):(zL (a=b) t).run=t.run:=zb h t
@[simp] theorem zp{a b:Nat}(t:T α)(h:a<=b):(zL (a<=b) t).run=t.run:=zb h t
@[simp] theorem uQ{a b:Int}(t:T α)(h:a<=b):(zL (a<=b) t).run=t.run:=zb h t
@[simp] theorem vj{a b:Int}(t:T α)(h:a≠b):(zL (a≠b) t).run=t.run:=zb h t
@[simp] theorem z7L{A:Type}{i:Int}{l:List A}(t:T α)(h1:0<=i)(h2:i<(l.length:Int)):(oI i l t).run=t.run:=zb ⟨h1,h2⟩ t
@[simp] theorem zhh{A:Type}(l:List A)(t:T α):(oE l t).run=t.run:=zb rfl t
@[simp] theorem zfW{A:Type}(l:List A)(t:T α):(oC l t).run=t.run:=zb ⟨rfl,rfl,rfl⟩ t
@[simp] theorem zfQ{a b:Nat}(t:T α)(h:a=b):(oM a b t).run=t.run:=(zb ⟨h,rfl,h⟩ _).trans (zb h t)
@[simp] theorem zeB{A:Type}{l:List A}{k:Nat}(t:T α)(h:(l.length+1)*k<=140737488355328):(oA l k t).run=t.run:=zb ⟨rfl,rfl,rfl,h⟩ t
@[simp] theorem EI{a b:ze}(t:T α)(h:a.length+b.length<=4611686018427387904):(oK a b t).run=t.run:=zb h t
@[simp] theorem zo(t:T α):(zL True t).run=t.run:=zb trivial t
end T
@[simp] theorem zA{x:Int}(h1 : -9223372036854775808<=x)(h2:x<=9223372036854775807):zF x=x:=IntWalk.i64_in x ⟨h1,h2⟩
@[simp] theorem Gq{x:Int}(h1:0<=x)(h2:x<=255):Bg x=x:=IntWalk.u8_in x ⟨h1,h2⟩
@[simp] theorem ZQ{x:Int}(h1:0<=x)(h2:x<=4294967295):xR x=x:=IntWalk.u32_in x ⟨h1,h2⟩
@[simp] theorem qm{x:Int}(h1:0<=x)(h2:x<=18446744073709551615):zO x=x:=IntWalk.u64_in x ⟨h1,h2⟩
theorem eT(x:Int):xR x=x % 4294967296:=IntKind.wrap_u32 x
theorem Cg{α:Type}(l:List α)(d:α){i:Int}(h0:0<=i)(hi:i<(l.length:Int)):l.drop i.toNat=nth l i d::l.drop (i+1).toNat:=by
 unfold nth
 have qu:i.toNat<l.length:=by omega
 have e:(i+1).toNat=i.toNat+1:=by omega
 rw[e,List.drop_eq_getElem_cons qu]
 simp[List.getD_eq_getElem?_getD,qu]
theorem RE{α:Type}(l:List α){i:Int}(hi:¬ i<(l.length:Int)):l.drop i.toNat=[]:=List.drop_eq_nil_of_le (by omega)
namespace T
variable {σ ρ α β:Type}
theorem G3{r:σ->T (σ⊕ρ)}(l:List α)(d:α)(e:β->Int->σ)(I:β->List α->Prop)(f:List α->β->ρ)
  (step:∀ (b:β) (x:α) (xs:List α) (i:Int),0<=i->i<(l.length:Int)->nth l i d=x->I b (x::xs) ->
   (∃ b',(r (e b i)).run=some (.inl (e b' (i+1)))/\I b' xs/\f xs b'=f (x::xs) b)\/(r (e b i)).run=some (.inr (f (x::xs) b)))
  (done:∀ b,I b []->(r (e b (l.length:Int))).run=some (.inr (f [] b))) {b:β} (hI:I b l):(loop r (e b 0)).run=some (f l b):=by
 have key:∀ (xs:List α) (i:Nat) (b:β),l.drop i=xs->i<=l.length->I b xs->(loop r (e b (i:Int))).run=some (f xs b):=by
  intro xs
  induction xs with
  | nil =>
   intro i b hd hi hb
   have:i=l.length:=by have:=List.drop_eq_nil_iff.1 hd; omega
   subst this
   exact qz (done b hb)
  | cons x xs ih =>
   intro i b hd hi hb
   have qu:i<l.length:=by
    rcases Nat.lt_or_ge i l.length with h | h
    ·exact h
    ·rw[List.drop_eq_nil_of_le h]at hd; cases hd
   have kN:=Cg l d (i:=(i:Int)) (by omega) (by omega)
   have e1:((i:Int)+1).toNat=i+1:=by omega
   simp only[Int.toNat_natCast,e1]at kN
   rw[hd]at kN
   obtain⟨h1,h2⟩:=List.cons.inj kN
   rcases step b x xs i (by omega) (by omega) (by rw[h1]) hb with⟨b',g1,g2,g3⟩ | g1
   ·rw[vu g1,<- g3]
    have:=ih (i+1) b' h2.symm (by omega) g2
    simpa using this
   ·exact qz g1
 exact key l 0 b (by simp) (Nat.zero_le _) hI
end T
end Go.AM