/-
  The abstract machine, part A: texts of our own, the same for each claim.
-/
import Derived.WalkKit
set_option linter.unusedVariables false
namespace Go.AM
theorem orMap {a b c d : Prop} (h : a ∨ b) (f : a → c) (g : b → d) : c ∨ d := h.elim (fun x => .inl (f x)) (fun x => .inr (g x))
abbrev Str := List UInt8
inductive Ty where
 | int (k : IntKind) | bool | str | sl (e : Ty) | nil | cons (a b : Ty) | expr
 deriving DecidableEq
inductive Expr where
 | mk (kind : Int) (num : Bool × List Int × List Int × Unit) (name : Str) (kids : List Expr)
def Expr.kind : Expr → Int | .mk k _ _ _ => k
def Expr.num : Expr → Bool × List Int × List Int × Unit | .mk _ n _ _ => n
def Expr.name : Expr → Str | .mk _ _ n _ => n
def Expr.kids : Expr → List Expr | .mk _ _ _ l => l
@[reducible] def den : Ty → Type
 | .int _ => Int
 | .bool => Bool
 | .str => Str
 | .sl e => List (den e)
 | .nil => Unit
 | .cons a b => den a × den b
 | .expr => Expr
abbrev u32 : Ty := .int .u32
abbrev i64 : Ty := .int .i64
abbrev ratTy : Ty := .cons .bool (.cons (.sl u32) (.cons (.sl u32) .nil))
abbrev exprF : Ty := .cons i64 (.cons ratTy (.cons .str (.cons (.sl .expr) .nil)))
def Expr.flds (e : Expr) : den exprF := (e.kind, e.num, e.name, e.kids, ())
def Expr.ofFlds (x : den exprF) : Expr := .mk x.1 x.2.1 x.2.2.1 x.2.2.2.1
def Ty.size : Ty → Nat
 | .int _ | .bool | .str | .sl _ => 1
 | .nil => 0
 | .cons a b => a.size + b.size
 | .expr => 6
def Ty.isAgg : Ty → Bool
 | .nil | .cons _ _ | .expr => true
 | _ => false
def dflt : (τ : Ty) → den τ
 | .int _ => (0 : Int)
 | .bool => false
 | .str => ([] : Str)
 | .sl e => ([] : List (den e))
 | .nil => ()
 | .cons a b => (dflt a, dflt b)
 | .expr => .mk 0 (false, [], [], ()) [] []
inductive D where
 | imm (τ : Ty) (x : den τ)
 | tight (e : Ty) (l : List (den e)) (ne : Bool)
 | nilsl | nilp | niface | nilclo | nilmap
 | ptr (b off : Nat)
 | rptr (τ : Ty) (x : den τ)
 | eptr (b ver : Nat) (e : Ty) (idx off : Nat)
 | ms (b ver : Nat) (e : Ty) (off len : Nat)
 | clo (f : Nat) (cap : List D)
 | agg (cs : List D)
 | tup (vs : List D)
 | iface (t : Nat) (d : D)
 | unk
 | optp (b T : Nat)
 | bnil (T : Nat)
inductive Blk where
 | dead
 | var (d : D)
 | arr (ver : Nat) (e : Ty) (xs : List (den e))
abbrev St := List Blk
inductive T (α : Type) where
 | ret (a : α)
 | ite (b : Bool) (t e : T α)
 | obl (p : Prop) (t : T α)
 | fail
namespace T
variable {α β : Type}
def bind : T α → (α → T β) → T β
 | ret a, k => k a
 | ite b t e, k => ite b (t.bind k) (e.bind k)
 | obl p t, k => obl p (t.bind k)
 | fail, _ => fail
def ofOpt : Option α → T α
 | some a => ret a
 | none => fail
def leads : T α → α → Prop
 | ret a, x => a = x
 | ite b t e, x => (b = true ∧ t.leads x) ∨ (b = false ∧ e.leads x)
 | obl p t, x => p ∧ t.leads x
 | fail, _ => False
def wp (Q : α → Prop) : T α → Prop
 | ret a => Q a
 | ite b t e => (b = true → t.wp Q) ∧ (b = false → e.wp Q)
 | obl p t => p ∧ t.wp Q
 | fail => False
end T
abbrev Fr := List (Nat × Option D)
def Fr.get : Fr → Nat → Option D
 | [], _ => none
 | (t, d) :: r, s => bif Nat.beq t s then d else Fr.get r s
def Fr.put (fr : Fr) (dst : Option Nat) (d : Option D) : Fr :=
 match dst with
 | some t => (t, d) :: fr
 | none => fr
abbrev Kn := List (Nat × Option Bool)
def Kn.get : Kn → Nat → Option Bool
 | [], _ => none
 | (t, b) :: r, s => bif Nat.beq t s then b else Kn.get r s
inductive Res where
 | ret (ds : List D)
 | pan (d : D)
inductive Cap where
 | rp (τ : Ty) | im (τ : Ty)
inductive PSh where
 | ty (τ : Ty) | rp (τ : Ty) | clo (f : Nat) (caps : List Cap)
structure Sig where
 params : List PSh
 res : List Ty
structure Ctx where
 P : Program
 xid : Nat
 sig : Nat → List D → Option Sig
 fn : Nat → List D → St → T (Res × St)
 ro : Nat → Bool
 /-- Blocks that a call leaves as they are. -/
 free : Nat → List D → St → List Nat
 freeOk : ∀ (g : Nat) (args : List D) (st : St) (rs : Res) (st' : St) (b : Nat), (fn g args st).leads (rs, st') → b ∈ free g args st → st'[b]? = st[b]?
inductive Ex where
 | normal | exit (id : Nat) | ret | pan (d : D)
class RowT where
 u8 : Nat
def rowOkB [RowT] (e : Ty) (t : Nat) : Bool := match e with
 | .int .u8 => Nat.beq t RowT.u8
 | _ => true
def rowOk [RowT] (e : Ty) (t : Nat) : Prop := e = .int .u8 → t = RowT.u8
section ops
variable (c : Ctx)
variable [RowT]
def sizeT (t : Nat) : Option Nat := (c.P.info? t).map (·.size)
def bytesT (t : Nat) : Option Nat := (c.P.info? t).map (·.bytes)
def aggT (t : Nat) : Option Bool := match c.P.underlying t with | some (.struct _) | some (.array _ _) => some true | some _ => some false | none => none
def tyCons : List (Option Ty) → Option Ty
 | [] => some .nil
 | some a :: r => match tyCons r with | some b => some (.cons a b) | none => none
 | none :: _ => none
def tyOf : Nat → Nat → Option Ty
 | 0, _ => none
 | n + 1, t => bif Nat.beq t c.xid then some .expr else
  match c.P.underlying t with
  | some (.int k) => some (.int k)
  | some .bool => some .bool
  | some .string => some .str
  | some (.slice e) => match tyOf n e with | some a => some (.sl a) | none => none
  | some (.struct fs) => tyCons (fs.toList.map fun f => tyOf n f.type)
  | some (.array k e) => tyCons (List.replicate k (tyOf n e))
  | _ => none
def okTy (t : Nat) (τ : Ty) : Bool := rowOkB τ t && (match sizeT c t with | some n => Nat.beq n τ.size | none => false) && (match aggT c t with | some b => b == τ.isAgg | none => false)
def ofVal1 : Value → Option D
 | .int k n => some (.imm (.int k) n)
 | .bool b => some (.imm .bool b)
 | .string s => some (.imm .str s.data.toList)
 | .slice none 0 0 => some .nilsl
 | .pointer none => some .nilp
 | .nilFunc => some .nilclo
 | .nilIface => some .niface
 | .map none => some .nilmap
 | _ => none
def allSome : List (Option D) → Option (List D)
 | [] => some []
 | some d :: r => match allSome r with | some l => some (d :: l) | none => none
 | none :: _ => none
def ofVal : Value → Option D
 | .agg cs => match allSome (cs.toList.map ofVal1) with | some l => some (.agg l) | none => none
 | v => ofVal1 v
def flat : (τ : Ty) → den τ → List D
 | .int k, x => [.imm (.int k) x]
 | .bool, x => [.imm .bool x]
 | .str, x => [.imm .str x]
 | .sl e, x => [.imm (.sl e) x]
 | .nil, _ => []
 | .cons a b, x => flat a x.1 ++ flat b x.2
 | .expr, x => [.imm i64 x.kind, .imm .bool x.num.1, .imm (.sl u32) x.num.2.1, .imm (.sl u32) x.num.2.2.1, .imm .str x.name, .imm (.sl .expr) x.kids]
def flatD : D → List D
 | .imm τ x => flat τ x
 | .agg cs => cs
 | .tup _ => []
 | d => [d]
def D.isAgg : D → Bool
 | .agg _ => true
 | _ => false
def D.isAggV : D → Bool
 | .imm τ _ => τ.isAgg
 | .agg _ => true
 | _ => false
def D.aggV : D → Bool
 | .imm τ _ => τ.isAgg
 | .agg _ => true
 | _ => false
def typedL : List D → Option Nat
 | .bnil T :: _ => some T
 | .optp _ T :: _ => some T
 | _ => none
def D.typed : D → Option Nat
 | .agg l => typedL l
 | _ => none
def okTyped (d d' : D) : Bool := match d'.typed with
 | none => true
 | some T => match d.typed with | some T' => Nat.beq T T' | none => false
def D.isTup : D → Bool
 | .tup _ => true
 | _ => false
def castTy {a b : Ty} (x : den a) : Option (den b) := if h : a = b then some (h ▸ x) else none
def arrN (e : Ty) : Nat → Ty
 | 0 => .nil
 | n + 1 => .cons e (arrN e n)
def arrTy : Ty → Option (Ty × Nat)
 | .cons e r => match r with
  | .nil => some (e, 1)
  | r => match arrTy r with
   | some (e', n) => bif decide (e = e') then some (e, n + 1) else none
   | none => none
 | _ => none
def arrAt (e : Ty) : (τ : Ty) → den τ → Nat → den e
 | .cons _ _, x, 0 => match (castTy x.1 : Option (den e)) with | some y => y | none => dflt e
 | .cons _ b, x, i + 1 => arrAt e b x.2 i
 | _, _, _ => dflt e
def arrF {e : Ty} (f : Nat → den e) : (n : Nat) → Nat → den (arrN e n)
 | 0, _ => ()
 | n + 1, k => (f k, arrF f n (k + 1))
def cell1 (τ : Ty) : D → Option (den τ)
 | .imm σ x => castTy x
 | .tight e l _ => castTy (a := .sl e) l
 | .nilsl => match τ with | .sl e => some ([] : List (den e)) | _ => none
 | _ => none
def uncell : (τ : Ty) → List D → Option (den τ × List D)
 | .int k, d :: r => match cell1 (.int k) d with | some x => some (x, r) | none => none
 | .bool, d :: r => match cell1 .bool d with | some x => some (x, r) | none => none
 | .str, d :: r => match cell1 .str d with | some x => some (x, r) | none => none
 | .sl e, d :: r => match cell1 (.sl e) d with | some x => some (x, r) | none => none
 | .nil, r => some ((), r)
 | .cons a b, r => match uncell a r with
  | some (x, r') => match uncell b r' with | some (y, r'') => some ((x, y), r'') | none => none
  | none => none
 | .expr, [] => none
 | .expr, d :: r => match cell1 i64 d with
  | none => none
  | some k => match r with
   | d1 :: d2 :: d3 :: d4 :: d5 :: r' =>
    match cell1 .bool d1, cell1 (.sl u32) d2, cell1 (.sl u32) d3, cell1 .str d4, cell1 (.sl .expr) d5 with
    | some a, some n, some m, some s, some l => some (Expr.mk k (a, n, m, ()) s l, r')
    | _, _, _, _, _ => none
   | _ => none
 | _, [] => none
def coe0 (τ : Ty) (d : D) : Option (den τ) :=
 match d with
 | .imm σ x => castTy x
 | d => bif (d.isAgg == τ.isAgg) && !d.isTup then match uncell τ (flatD d) with
   | some (x, []) => some x
   | _ => none
  else none
def snap1 (st : St) : D → T D
 | .ms b ver e off len => match st[b]? with
  | some (.arr ver' e' xs) => if h : e' = e then .obl (ver = ver') (.ret (.imm (.sl e) (h ▸ ((xs.take (off + len)).drop off : List (den e'))))) else .fail
  | _ => .fail
 | d => .ret d
def snaps (st : St) : List D → T (List D)
 | [] => .ret []
 | d :: r => (snap1 st d).bind fun x => (snaps st r).bind fun l => .ret (x :: l)
def snap (st : St) : D → T D
 | .agg cs => (snaps st cs).bind fun l => .ret (.agg l)
 | d => snap1 st d
def coeS (st : St) (τ : Ty) (d : D) : T (den τ) := (snap st d).bind fun x => .ofOpt (coe0 τ x)
def isMs1 : D → Bool | .ms .. => true | _ => false
inductive Cls where
 | val (t : T (Option D))
 | rd (k : St → T (Option D))
 | wr (k : St → T (Option D × St))
def val (d : D) : Cls := .val (.ret (some d))
def oval (d : Option D) : Cls := match d with | some d => .val (.ret (some d)) | none => .val .fail
def bad : Cls := .val .fail
def selfT (t : Nat) : Bool := match c.P.underlying t with
 | some (.struct fs) => match fs[0]? with
  | some fd => match c.P.underlying fd.type with | some (.pointer e) => Nat.beq e t | _ => false
  | none => false
 | _ => false
def markZ (t : Nat) (d : D) : D := match d with
 | .agg (.nilp :: r) => bif selfT c t then .agg (.bnil t :: r) else .agg (.nilp :: r)
 | d => d
def zeroD (t : Nat) : Option D := match c.P.info? t with
 | some i => match i.zero with | some z => (match ofVal z with | some d => some (markZ c t d) | none => none) | none => none
 | none => none
def takeCells (l : List D) (off n : Nat) : Option (List D) :=
 bif Nat.ble (off + n) l.length then some ((l.drop off).take n) else none
def subD (t : Nat) (d : D) (off : Nat) : Option D :=
 match aggT c t with
 | some true => match sizeT c t with
  | none => none
  | some n => bif (Nat.beq off 0) && Nat.beq n (flatD d).length && d.aggV then some d
   else match takeCells (flatD d) off n with | some l => some (.agg l) | none => none
 | some false => (flatD d)[off]?
 | none => none
def putD (t : Nat) (d : D) (off : Nat) (x : D) : Option D :=
 match sizeT c t with
 | none => none
 | some n => bif Nat.blt 0 n && Nat.beq n (flatD x).length && Nat.ble (off + n) (flatD d).length then
   bif Nat.beq n (flatD d).length then some x
   else some (.agg ((flatD d).take off ++ flatD x ++ (flatD d).drop (off + n)))
  else none
def loadOp (t : Nat) (a : Option D) : Cls := match a with
 | some (.rptr τ x) => bif okTy c t τ then val (.imm τ x) else bad
 | some (.ptr b off) => .rd fun st => match st[b]? with
  | some (.var d) => match subD c t d off with | some r => .ret (some r) | none => .fail
  | _ => .fail
 | some (.eptr b ver e idx off) => .rd fun st => match st[b]? with
  | some (.arr ver' e' xs) => bif decide (e' = e) then
    .obl (ver = ver' ∧ idx < xs.length) (match subD c t (.imm e' (xs.getD idx (dflt e'))) off with | some r => .ret (some r) | none => .fail)
   else .fail
  | _ => .fail
 | _ => bad
def storeOp (t : Nat) (a : Option D) (v : Option D) : Cls := match a, v with
 | some (.ptr b off), some x => .wr fun st => match st[b]? with
  | some (.var d) => match putD c t d off x with | some r => bif okTyped d r then .ret (none, st.set b (.var r)) else .fail | none => .fail
  | _ => .fail
 | some (.eptr b ver e idx off), some x => .wr fun st => match st[b]? with
  | some (.arr ver' e' xs) => bif decide (e' = e) then
    .obl (ver = ver' ∧ idx < xs.length) (match putD c t (.imm e' (xs.getD idx (dflt e'))) off x with
     | some r => match coe0 e' r with | some y => .ret (none, st.set b (.arr ver' e' (xs.set idx y))) | none => .fail
     | none => .fail)
   else .fail
  | _ => .fail
 | _, _ => bad
def fldAt : (τ : Ty) → den τ → Nat → Option (D × Nat × Nat)
 | .cons a _, x, 0 => some (.rptr a x.1, 0, a.size)
 | .cons a b, x, n + 1 => match fldAt b x.2 n with | some (d, o, s) => some (d, a.size + o, s) | none => none
 | .expr, x, 0 => some (.rptr i64 x.kind, 0, 1)
 | .expr, x, 1 => some (.rptr ratTy x.num, 1, 3)
 | .expr, x, 2 => some (.rptr .str x.name, 4, 1)
 | .expr, x, 3 => some (.rptr (.sl .expr) x.kids, 5, 1)
 | _, _, _ => none
def fieldOf (s f : Nat) : Option (Nat × Nat) := match c.P.underlying s with
 | some (.struct fs) => match fs[f]? with
  | some fd => match sizeT c fd.type with | some n => bif Nat.beq n 0 then none else some (fd.offset, n) | none => none
  | none => none
 | _ => none
def fieldAddrOp (s f : Nat) (a : Option D) : Cls := match fieldOf c s f with
 | none => bad
 | some (o, n) => match a with
  | some (.rptr τ x) => match fldAt τ x f with
   | some (d, o', n') => bif Nat.beq o o' && Nat.beq n n' then val d else bad
   | none => bad
  | some (.ptr b off) => val (.ptr b (off + o))
  | some (.eptr b ver e idx off) => val (.eptr b ver e idx (off + o))
  | _ => bad
def fieldOp (s f : Nat) (a : Option D) : Cls := match c.P.underlying s with
 | some (.struct fs) => match fs[f]? with
  | some fd => match a with
   | some d => oval (bif d.isAggV then subD c fd.type d fd.offset else none)
   | none => bad
  | none => bad
 | _ => bad
def asInt : Option D → Option (IntKind × Int)
 | some (.imm (.int k) n) => some (k, n)
 | _ => none
def asStr : Option D → Option Str
 | some (.imm .str s) => some s
 | _ => none
def asBool : Option D → Option Bool
 | some (.imm .bool b) => some b
 | _ => none
def elemT (t : Nat) : Option Nat := match c.P.underlying t with | some (.slice e) => some e | _ => none
def arrT (t : Nat) : Option (Nat × Nat) := match c.P.underlying t with | some (.array n e) => some (n, e) | _ => none
def indexArr (t : Nat) (x : Option D) (i : Int) : Cls := match arrT c t, x with
 | some (n, et), some (.rptr τ y) => match arrTy τ with
  | some (e, m) => bif okTy c et e && Nat.beq n m then .val (.obl (0 ≤ i ∧ i < (n : Int)) (.ret (some (.rptr e (arrAt e τ y i.toNat))))) else bad
  | none => bad
 | _, _ => bad
def indexAddrOp (t : Nat) (x i : Option D) : Cls := match elemT c t, asInt i with
 | none, some (_, i) => indexArr c t x i
 | some et, some (_, i) => match x with
  | some (.imm (.sl e) l) => bif okTy c et e then .val (.obl (0 ≤ i ∧ i < (List.length l : Int)) (.ret (some (.rptr e (List.getD l i.toNat (dflt e)))))) else bad
  | some (.tight e l _) => bif okTy c et e then .val (.obl (0 ≤ i ∧ i < (List.length l : Int)) (.ret (some (.rptr e (List.getD l i.toNat (dflt e)))))) else bad
  | some (.ms b ver e off len) => bif okTy c et e then .val (.obl (0 ≤ i ∧ i < (len : Int)) (.ret (some (.eptr b ver e (off + i.toNat) 0)))) else bad
  | _ => bad
 | _, _ => bad
def indexOp (t : Nat) (x i : Option D) : Cls := match asInt i, asStr x, c.P.underlying t with
 | some (_, i), some s, some .string => .val (.obl (0 ≤ i ∧ i < (List.length s : Int)) (.ret (some (.imm (.int .u8) ((List.getD s i.toNat 0).toNat : Int)))))
 | _, _, _ => bad
def bnd (d : Int) : Option (Option D) → Option Int
 | none => some d
 | some x => match asInt x with | some (_, i) => some i | none => none
def cutS (l h : Int) (s : Str) : Str := (s.take h.toNat).drop l.toNat
def cutL {e : Ty} (l h : Int) (s : List (den e)) : List (den e) := (s.take h.toNat).drop l.toNat
def sliceOp (t : Nat) (x : Option D) (lo hi mx : Option (Option D)) : Cls := match x with
 | some (.imm .str s) => match c.P.underlying t, mx, bnd 0 lo, bnd (List.length s) hi with
  | some .string, none, some l, some h => .val (.obl (0 ≤ l ∧ l ≤ h ∧ h ≤ (List.length s : Int)) (.ret (some (.imm .str (cutS l h s)))))
  | _, _, _, _ => bad
 | some (.imm (.sl e) s) => match elemT c t, bnd 0 lo, bnd (List.length s) hi with
  | some et, some l, some h => bif okTy c et e then match mx with
    | none => .val (.obl (0 ≤ l ∧ l ≤ h ∧ h ≤ (List.length s : Int)) (.ret (some (.imm (.sl e) (cutL l h s)))))
    | some m => match asInt m with
     | some (_, m) => bif hi.isSome then .val (.obl (0 ≤ l ∧ l ≤ h ∧ h = m ∧ h ≤ (List.length s : Int)) (.ret (some (.tight e (cutL l h s) false)))) else bad
     | none => bad
   else bad
  | _, _, _ => bad
 | some (.tight e s _) => match elemT c t, mx, bnd 0 lo, bnd (List.length s) hi with
  | some et, none, some l, some h => bif okTy c et e then .val (.obl (0 ≤ l ∧ l ≤ h ∧ h ≤ (List.length s : Int)) (.ret (some (.imm (.sl e) (cutL l h s))))) else bad
  | _, _, _, _ => bad
 | some (.ms b ver e off len) => match elemT c t, mx, bnd 0 lo, bnd len hi with
  | some et, none, some l, some h => bif okTy c et e then .val (.obl (0 ≤ l ∧ l ≤ h ∧ h ≤ (len : Int)) (.ret (some (.ms b ver e (off + l.toNat) (h.toNat - l.toNat))))) else bad
  | _, _, _, _ => bad
 | _ => bad
def ib (k : IntKind) (n : Int) : Cls := val (.imm (.int k) n)
def bb (b : Bool) : Cls := val (.imm .bool b)
def bitsOp (k : IntKind) (f : BitVec k.bits → BitVec k.bits → BitVec k.bits) (x y : Int) : Int := k.wrap (f (BitVec.ofInt k.bits x) (BitVec.ofInt k.bits y)).toNat
def shlI (k : IntKind) (a b : Int) : Int := k.wrap (a * 2 ^ (min b.toNat k.bits))
def shrI (k : IntKind) (a b : Int) : Int := Int.fdiv a (2 ^ (min b.toNat k.bits))
def binInt (op : BinOp) (k : IntKind) (a b : Int) : Cls := match op with
 | .add => ib k (k.wrap (a + b))
 | .sub => ib k (k.wrap (a - b))
 | .mul => ib k (k.wrap (a * b))
 | .quo => .val (.obl (b ≠ 0) (.ret (some (.imm (.int k) (k.wrap (a.tdiv b))))))
 | .rem => .val (.obl (b ≠ 0) (.ret (some (.imm (.int k) (a.tmod b)))))
 | .and => ib k (bitsOp k (· &&& ·) a b)
 | .or => ib k (bitsOp k (· ||| ·) a b)
 | .xor => ib k (bitsOp k (· ^^^ ·) a b)
 | .eql => bb (a == b)
 | .neq => bb (a != b)
 | .lss => bb (decide (a < b))
 | .leq => bb (decide (a ≤ b))
 | .gtr => bb (decide (b < a))
 | .geq => bb (decide (b ≤ a))
 | _ => bad
def strEq (a b : Str) : Bool := a == b
def strLt (a b : Str) : Bool := Op.bytesLess a b
def cat (a b : Str) : Str := a ++ b
def binStr (op : BinOp) (a b : Str) : Cls := match op with
 | .add => .val (.obl (a.length + b.length ≤ 4611686018427387904) (.ret (some (.imm .str (cat a b)))))
 | .eql => bb (strEq a b)
 | .neq => bb (!strEq a b)
 | .lss => bb (strLt a b)
 | .leq => bb (strLt a b || strEq a b)
 | .gtr => bb (!(strLt a b || strEq a b))
 | .geq => bb (!strLt a b)
 | _ => bad
def eqBool (op : BinOp) (a b : Bool) : Cls := match op with
 | .eql => bb (a == b)
 | .neq => bb (!(a == b))
 | _ => bad
def isShift : BinOp → Bool
 | .shl | .shr => true
 | _ => false
def binOpA (op : BinOp) (t : Nat) (x y : Option D) : Cls := match asInt x, asInt y with
 | some (k, a), some (k', b) => match op with
  | .shl => .val (.obl (0 ≤ b) (.ret (some (.imm (.int k) (shlI k a b)))))
  | .shr => .val (.obl (0 ≤ b) (.ret (some (.imm (.int k) (shrI k a b)))))
  | op => bif decide (k = k') then binInt op k a b else bad
 | _, _ => match asStr x, asStr y with
  | some a, some b => bif isShift op then bad else binStr op a b
  | _, _ => match c.P.underlying t, asBool x, asBool y with
   | some .bool, some a, some b => eqBool op a b
   | _, _, _ => bad
def nilIfOp (op : BinOp) (t : Nat) (x : Option D) : Cls := match c.P.underlying t with
 | some (.interface _) => match op, x with
  | .eql, some .niface => bb true
  | .eql, some (.iface _ _) => bb false
  | .neq, some .niface => bb false
  | .neq, some (.iface _ _) => bb true
  | _, _ => bad
 | _ => bad
def typeAssertOp (x : Option D) (at' : Nat) (ok : Bool) : Cls := match c.P.underlying at' with
 | some (.interface _) => bad
 | none => bad
 | some _ => match x with
  | some (.iface t d) => bif Nat.beq t at' && ok then val (.tup [d, .imm .bool true]) else bad
  | _ => bad
def binOpB (op : BinOp) (t : Nat) (p : Operand) (x y : Option D) : Cls := match p with
 | .const .nilIface => nilIfOp c op t x
 | _ => binOpA c op t x y
def unOpA (op : UnOp) (x : Option D) : Cls := match op with
 | .neg => match asInt x with | some (k, n) => ib k (k.wrap (0 - n)) | none => bad
 | .not => match asBool x with | some b => bb (!b) | none => bad
 | .xor => match asInt x with | some (k, n) => ib k (bitsOp k (· ^^^ ·) (if k.signed then -1 else k.max) n) | none => bad
 | _ => bad
def byteOf (n : Int) : UInt8 := UInt8.ofNat n.toNat
def srcOf (e : Ty) : D → Option (List (den e))
 | .imm σ y => castTy (a := σ) (b := .sl e) y
 | .tight e' y _ => castTy (a := .sl e') (b := .sl e) y
 | .nilsl => some []
 | _ => none
def bytesStr (l : List Int) : Str := l.map byteOf
def convBytes (e : Nat) (x : Option D) : Cls := match c.P.underlying e, x with
 | some (.int .u8), some d => .rd fun st => (snap1 st d).bind fun y => match srcOf (.int .u8) y with
  | some l => .ret (some (.imm .str (bytesStr l)))
  | none => .fail
 | _, _ => bad
def convertOp (s t : Nat) (x : Option D) : Cls := match c.P.underlying s, c.P.underlying t with
 | some (.slice e), some .string => convBytes c e x
 | some (.int _), some (.int k) => match asInt x with | some (_, n) => ib k (k.wrap n) | none => bad
 | some .string, some .string => match asStr x with | some s => val (.imm .str s) | none => bad
 | _, _ => bad
def lenOp (t : Nat) (x : Option D) : Cls := match c.P.underlying t with
 | some (.slice _) => match x with
  | some (.imm (.sl _) l) => ib .i64 (List.length l)
  | some (.tight _ l _) => ib .i64 (List.length l)
  | some .nilsl => ib .i64 0
  | some (.ms _ _ _ _ len) => ib .i64 (len : Nat)
  | _ => bad
 | some .string => match asStr x with
  | some s => ib .i64 (List.length s)
  | none => bad
 | _ => bad
def ex (e : Ty) {e' : Ty} (xs : List (den e')) : Option (List (den e)) := castTy (a := .sl e') (b := .sl e) xs
def appendNew (e : Ty) (l ys : List (den e)) (bytes : Nat) (st : St) : T (Option D × St) :=
 .obl ((l.length + ys.length) * bytes ≤ 140737488355328) (.ret (some (.ms st.length (l.length + ys.length) e 0 (l.length + ys.length)), st ++ [.arr (l.length + ys.length) e (l ++ ys)]))
def appendTo (e : Ty) (s : D) (ys : List (den e)) (ne : Bool) (bytes : Nat) (st : St) : T (Option D × St) := match s with
 | .nilsl => bif ne then appendNew e [] ys bytes st else .ite ys.isEmpty (.ret (some s, st)) (appendNew e [] ys bytes st)
 | .tight e' l _ => match ex e l with
  | some l => bif ne then appendNew e l ys bytes st else .ite ys.isEmpty (.ret (some s, st)) (appendNew e l ys bytes st)
  | none => .fail
 | .ms b ver e' off len => match st[b]? with
  | some (.arr ver' e'' xs) => match ex e xs with
   | some xs => bif decide (e' = e) then .obl (ver = ver' ∧ off = 0 ∧ len = xs.length ∧ (xs.length + ys.length) * bytes ≤ 140737488355328)
     (.ret (some (.ms b (ver + ys.length) e 0 (len + ys.length)), st.set b (.arr (ver + ys.length) e (xs ++ ys)))) else .fail
   | none => .fail
  | _ => .fail
 | _ => .fail
def zeroOf (et : Nat) (e : Ty) : Option (den e) := match zeroD c et with | some z => coe0 e z | none => none
def appendOp (t : Nat) (s x : Option D) : Cls := match elemT c t with
 | none => bad
 | some et => match tyOf c 20 et, bytesT c et with
  | some e, some bytes => bif okTy c et e && Nat.blt 0 e.size && Nat.blt 0 bytes && (zeroOf c et e).isSome then match s, x with
    | some s, some x => .wr fun st => (snap1 st x).bind fun x => match x with
     | .imm _ y => match (castTy y : Option (den (.sl e))) with
      | some ys => appendTo e s ys false bytes st
      | none => .fail
     | .tight _ y ne => match ex e y with
      | some ys => appendTo e s ys ne bytes st
      | none => .fail
     | .nilsl => appendTo e s [] false bytes st
     | _ => .fail
    | _, _ => bad
   else bad
  | _, _ => bad
def bytesOf (s : Str) : List Int := s.map fun b => ((b.toNat : Nat) : Int)
def appendStr (t t' : Nat) (s x : Option D) : Cls := match elemT c t with
 | none => bad
 | some et => match tyOf c 20 et, bytesT c et, c.P.underlying t' with
  | some (.int .u8), some bytes, some .string => bif okTy c et (.int .u8) && Nat.blt 0 bytes && (zeroOf c et (.int .u8)).isSome then match s, x with
    | some s, some (.imm .str l) => .wr fun st => appendTo (.int .u8) s (bytesOf l) false bytes st
    | _, _ => bad
   else bad
  | _, _, _ => bad
def makeOp (t : Nat) (n m : Option D) : Cls := match elemT c t, asInt n, asInt m with
 | some et, some (_, n), some (_, m) => match tyOf c 20 et, bytesT c et with
  | some e, some bytes => match zeroOf c et e with
   | some z => bif okTy c et e && Nat.blt 0 e.size then
     .wr fun st => .obl (0 ≤ n ∧ n ≤ m ∧ m * bytes ≤ 140737488355328 ∧ m ≤ 140737488355328) (.ret (some (.ms st.length n.toNat e 0 n.toNat), st ++ [.arr n.toNat e (List.replicate n.toNat z)]))
    else bad
   | none => bad
  | _, _ => bad
 | _, _, _ => bad
def fillL (e : Ty) : Nat → List (Nat × Option D) → Option (List (den e))
 | _, [] => some []
 | i, (j, some d) :: r => bif Nat.beq i j then match coe0 e d, fillL e (i + 1) r with
   | some x, some l => some (x :: l)
   | _, _ => none
  else none
 | _, _ => none
def buildSliceOp (t n : Nat) (ps : List (Nat × Option D)) : Cls := match elemT c t with
 | none => bad
 | some et => match tyOf c 20 et with
  | some e => bif okTy c et e && Nat.beq n ps.length && Nat.ble n 1000 && Nat.ble e.size 100 && (zeroOf c et e).isSome then match fillL e 0 ps with
    | some l => bif Nat.beq n 0 && Nat.blt 0 e.size then .wr fun st => .ret (some (.ms st.length 0 e 0 0), st ++ [.arr 0 e []]) else val (.tight e l (!Nat.beq n 0))
    | none => bad
   else bad
  | none => bad
def placeAll (places : List (Nat × Nat)) : List (Nat × Option D) → List D → Option (List D)
 | [], cells => some cells
 | (i, some d) :: r, cells => match places[i]? with
  | some (off, n) => bif !d.isTup && Nat.beq n (flatD d).length && Nat.ble (off + n) cells.length then
     placeAll places r (cells.take off ++ flatD d ++ cells.drop (off + n)) else none
  | none => none
 | _, _ => none
def buildOp (t : Nat) (ps : List (Nat × Option D)) : Cls := match c.P.underlying t with
 | some (.struct fs) => match zeroD c t, fs.toList.mapM (fun f => (c.P.info? f.type).map fun i => (f.offset, i.size)) with
  | some (.agg z), some places => match placeAll places ps z with
   | some l => val (.agg l)
   | none => bad
  | _, _ => bad
 | some (.array k e) => match zeroD c t, c.P.info? e with
  | some (.agg z), some ie => match placeAll ((List.range k).map fun i => (i * ie.size, ie.size)) ps z with
   | some l => val (.agg l)
   | none => bad
  | _, _ => bad
 | _ => bad
def extractOp (x : Option D) (i : Nat) : Cls := match x with
 | some (.tup vs) => oval vs[i]?
 | _ => bad
def packRes : List D → D
 | [d] => d
 | ds => .tup ds
def Ty.scalar : Ty → Bool
 | .int _ | .bool | .str => true
 | .cons a b => a.scalar && b.scalar
 | .nil => true
 | _ => false
def scalarD : D → Bool
 | .imm τ _ => τ.scalar
 | _ => false
def coeRp (st : St) (τ : Ty) : D → T D
 | .rptr _ x => match (castTy x : Option (den τ)) with | some y => .ret (.rptr τ y) | none => .fail
 | .ptr b off => match st[b]? with
  | some (.var d) => match bif Nat.beq off 0 then coe0 τ d else none with | some y => .ret (.rptr τ y) | none => .fail
  | _ => .fail
 | _ => .fail
def coeCap (st : St) : Cap → D → T D
 | .im τ, d => (coeS st τ d).bind fun x => .ret (.imm τ x)
 | .rp τ, d => coeRp st τ d
def coeCaps (st : St) : List Cap → List D → T (List D)
 | [], [] => .ret []
 | p :: r, d :: ds => (coeCap st p d).bind fun x => (coeCaps st r ds).bind fun l => .ret (x :: l)
 | _, _ => .fail
def coeP (st : St) : PSh → D → T D
 | .ty τ, d => (coeS st τ d).bind fun x => .ret (.imm τ x)
 | .rp τ, d => coeRp st τ d
 | .clo f caps, .clo f' l => bif Nat.beq f f' then (coeCaps st caps l).bind fun l => .ret (.clo f l) else .fail
 | _, _ => .fail
def coePs (st : St) : List PSh → List D → T (List D)
 | [], [] => .ret []
 | p :: r, d :: ds => (coeP st p d).bind fun x => (coePs st r ds).bind fun l => .ret (x :: l)
 | _, _ => .fail
def isPtr1 : D → Bool | .ptr .. => true | _ => false
def needSt : D → Bool
 | .agg cs => cs.any isMs1
 | .clo _ l => l.any fun d => isMs1 d || isPtr1 d
 | .ptr .. => true
 | d => isMs1 d
def retOf (r : Res × St) : T (Option D) := match r with
 | (.ret ds, []) => .ret (some (packRes ds))
 | _ => .fail
def retScalar (r : Res × St) : T (Option D) := match r with
 | (.ret ds, []) => bif ds.all scalarD then .ret (some (packRes ds)) else .fail
 | _ => .fail
def callPure (g : Nat) (s : Sig) (args : List D) : Cls :=
 bif !(args.any needSt) then .val ((coePs [] s.params args).bind fun l => (c.fn g l []).bind retOf)
 else .rd fun st => (coePs st s.params args).bind fun l => (c.fn g l []).bind retScalar
def callRaw (g : Nat) (args : List D) : Cls := .wr fun st => (c.fn g args st).bind fun r => match r.1 with
 | .ret ds => .ret (some (packRes ds), r.2)
 | .pan _ => .fail
def cloF (g : Nat) : Nat := bif Nat.ble 1000000 g then g % 1000000 else g
def cloA {α : Type} (g : Nat) (l caps : List α) : List α := bif Nat.ble 1000000 g then caps ++ l else l ++ caps
def callOp (f : Option D) (args : List (Option D)) : Cls := match f, allSome args with
 | some (.clo g caps), some l => match c.sig (cloF g) (cloA g l caps) with
  | some s => callPure c (cloF g) s (cloA g l caps)
  | none => callRaw c (cloF g) (cloA g l caps)
 | _, _ => bad
def minI (a b : Int) : Int := if b < a then b else a
def maxI (a b : Int) : Int := if a < b then b else a
def minmax (f : Int → Int → Int) (args : List (Option D)) : Cls := match args with
 | [x, y] => match asInt x, asInt y with
  | some (k, a), some (k', b) => bif decide (k = k') then ib k (f a b) else bad
  | _, _ => bad
 | _ => bad
def copyL {α : Type} (off len : Nat) (xs l : List α) : List α := xs.take off ++ l.take len ++ xs.drop (off + min len l.length)
def copyTo (k : IntKind) (b ver off len : Nat) (l : List Int) (st : St) : T (Option D × St) := match st[b]? with
 | some (.arr ver' e' xs) => match ex (.int k) xs with
  | some xs => .obl (ver = ver' ∧ off + len ≤ List.length xs) (.ret (some (.imm i64 ((min len l.length : Nat) : Int)), st.set b (.arr ver' (.int k) (copyL off len xs l))))
  | none => .fail
 | _ => .fail
def copyOp (t : Nat) (s x : Option D) : Cls := match elemT c t with
 | some et => match c.P.underlying et, sizeT c et, s, x with
  | some (.int k), some 1, some (.ms b ver (.int k') off len), some d => bif decide (k' = k) then .wr fun st => (snap1 st d).bind fun y => match srcOf (.int k) y with
    | some l => copyTo k b ver off len l st
    | none => .fail
   else bad
  | _, _, _, _ => bad
 | none => bad
def builtinOp (b : Builtin) (ts : List Nat) (args : List (Option D)) : Cls := match b, ts, args with
 | .len, t :: _, x :: _ => lenOp c t x
 | .append, [t, t'], [s, x] => bif Nat.beq t t' then appendOp c t s x else appendStr c t t' s x
 | .copy, [t, _], [s, x] => copyOp c t s x
 | .min, _, args => minmax minI args
 | .max, _, args => minmax maxI args
 | _, _, _ => bad
def evalA (fr : Fr) : Operand → Option D
 | .tmp t => fr.get t
 | .const v => ofVal v
 | .global _ => none
 | .func f => bif Nat.blt f 1000000 then some (.clo f []) else none
def nilCheckOp (x : Option D) : Cls := match x with
 | some (.ptr b o) => val (.ptr b o)
 | some (.rptr τ x) => val (.rptr τ x)
 | some (.eptr b v e i o) => val (.eptr b v e i o)
 | some (.clo f l) => val (.clo f l)
 | _ => bad
def pickOp (x a b : Option D) : Cls := match asBool x with
 | some x => .val (.ite x (.ret a) (.ret b))
 | none => bad
def makeIfaceOp (t : Nat) (x : Option D) : Cls := match c.P.underlying t with
 | some (.interface _) | none => bad
 | some _ => match x with | some d => val (.iface t d) | none => bad
def boxOp (x : Option D) : Cls := match x with
 | some d => bif d.isTup || d.typed.isSome then bad else .wr fun st => .ret (some (.ptr st.length 0), st ++ [.var d])
 | none => bad
def boxRo (t : Nat) (x : Option D) : Cls := match x with
 | some (.imm τ x) => val (.rptr τ x)
 | some d => match tyOf c 20 t with
  | some τ => match coe0 τ d with | some x => val (.rptr τ x) | none => bad
  | none => bad
 | none => bad
def roAt : Option Nat → Bool
 | some s => c.ro s
 | none => false
def boxAt (t : Nat) (dst : Option Nat) (x : Option D) : Cls := bif roAt c dst then boxRo c t x else boxOp x
def allocOp (t : Nat) : Cls := match zeroD c t with
 | some d => .wr fun st => .ret (some (.ptr st.length 0), st ++ [.var d])
 | none => bad
def evOp (ρ : Operand → Option D) (o : Oper) : Cls := match o.op with
 | .move x | .assign x => .val (.ret (ρ x))
 | .pick x a b => pickOp (ρ x) (ρ a) (ρ b)
 | .alloc t => allocOp c t
 | .box t x => boxAt c t o.dst (ρ x)
 | .load t a => loadOp c t (ρ a)
 | .store t a v => storeOp c t (ρ a) (ρ v)
 | .nilCheck x => nilCheckOp (ρ x)
 | .binOp op t x y _ => binOpB c op t y (ρ x) (ρ y)
 | .typeAssert x _ t ok => typeAssertOp c (ρ x) t ok
 | .unOp op _ x => unOpA op (ρ x)
 | .convert s t x => convertOp c s t (ρ x)
 | .makeInterface t x => makeIfaceOp c t (ρ x)
 | .makeFunc (.func f) first cap => bif Nat.beq first.size 0 && Nat.blt f 1000000 then match allSome (cap.toList.map ρ) with | some l => val (.clo f l) | none => bad
   else bif Nat.beq cap.size 0 && Nat.blt f 1000000 then match allSome (first.toList.map ρ) with | some l => val (.clo (f + 1000000) l) | none => bad else bad
 | .makeSlice t l m => makeOp c t (ρ l) (ρ m)
 | .slice t x lo hi mx => sliceOp c t (ρ x) (lo.map ρ) (hi.map ρ) (mx.map ρ)
 | .fieldAddr s x f => fieldAddrOp c s f (ρ x)
 | .field s x f => fieldOp c s f (ρ x)
 | .indexAddr t x i => indexAddrOp c t (ρ x) (ρ i)
 | .index t x i => indexOp c t (ρ x) (ρ i)
 | .extract x i => extractOp (ρ x) i
 | .build t ps => buildOp c t (ps.toList.map fun p => (p.1, ρ p.2))
 | .buildSlice t n ps => buildSliceOp c t n (ps.toList.map fun p => (p.1, ρ p.2))
 | .call cl => match cl.callee with
  | .builtin b => builtinOp c b cl.argTypes.toList (cl.args.toList.map ρ)
  | .value f => callOp c (ρ f) (cl.args.toList.map ρ)
  | .invoke _ _ => bad
 | _ => bad
def runCls : Cls → St → T (Option D × St)
 | .val t, st => t.bind fun d => .ret (d, st)
 | .rd k, st => (k st).bind fun d => .ret (d, st)
 | .wr k, st => k st
end ops
end Go.AM
namespace Go.AM
def Cls.kind : Cls → Nat
 | .val _ => 0
 | .rd _ => 1
 | .wr _ => 2
def guardSlot (ops : Array Oper) (j : Nat) : Option Nat := match ops[j]? with | some o => o.dst | none => none
def und : D := .tup []
def dstOk (n : Nat) : Option Nat → Bool
 | some t => Nat.blt t n
 | none => true
section
variable (c : Ctx)
variable [RowT]
def knownA (kn : Kn) : Operand → Option Bool
 | .tmp t => kn.get t
 | .const (.bool b) => some b
 | _ => none
def knOf (kn : Kn) : Op → Option Bool
 | .move x | .assign x => knownA kn x
 | .pick x a b => match knownA kn x with
  | some true => knownA kn a
  | some false => knownA kn b
  | none => none
 | _ => none
def evOpK (kn : Kn) (fr : Fr) (o : Oper) : Cls := match o.op with
 | .pick x a b => match knownA kn x with
  | some true => .val (.ret (evalA fr a))
  | some false => .val (.ret (evalA fr b))
  | none => evOp c (evalA fr) o
 | _ => evOp c (evalA fr) o
def putK (kn : Kn) (dst : Option Nat) (b : Option Bool) : Kn := match dst with | some t => (t, b) :: kn | none => kn
inductive RK where
 | z (k : Nat) | rd (b : Nat) | wr (free : List Nat) | up (b : Nat)
def RK.base : RK → Nat
 | .z k => k
 | .rd _ => 1
 | .wr _ => 2
 | .up _ => 2
def others (n : Nat) (l : List Nat) : List Nat := (List.range n).filter fun b => !(l.any (Nat.beq b))
def ptrB (d : Option D) : Option Nat := match d with
 | some d => match d with
  | .ptr b _ => some b
  | .eptr b _ _ _ _ => some b
  | _ => none
 | none => none
def kindB (bi : Builtin) (l : List (Option D)) : RK := match bi with
 | .append => match l with | [some (.ms b _ _ _ _), some x] => bif isMs1 x then .z 2 else .up b | _ => .z 2
 | _ => .z 2
def kindR (ρ : Operand → Option D) (st : St) (o : Oper) : RK := match (evOp c ρ o).kind with
 | 1 => match o.op with
  | .load _ a => match ptrB (ρ a) with | some b => .rd b | none => .z 1
  | _ => .z 1
 | 2 => match o.op with
  | .alloc _ => .wr (others st.length [])
  | .store _ a _ => match ptrB (ρ a) with | some b => .up b | none => .z 2
  | .call cl => match cl.callee with
   | .value f => match ρ f, allSome (cl.args.toList.map ρ) with | some (.clo g caps), some l => .wr (c.free (cloF g) (cloA g l caps) st) | _, _ => .z 2
   | .builtin bi => kindB bi (cl.args.toList.map ρ)
   | _ => .z 2
  | _ => .z 2
 | k => .z k
structure RSt where
 fr : Fr
 kn : Kn
 st : St
 ks : List Nat      -- kinds of what has run, the last first
 bk : List RK
def stepOp (n : Nat) (o : Oper) (s : RSt) : T RSt :=
 bif dstOk n o.dst then
  let cl := evOpK c s.kn s.fr o
  (runCls cl s.st).bind fun r => .ret ⟨s.fr.put o.dst r.1, putK s.kn o.dst (knOf s.kn o.op), r.2, cl.kind :: s.ks, kindR c (evalA s.fr) s.st o :: s.bk⟩
 else .fail
def skipOp (o : Oper) (s : RSt) : RSt := ⟨s.fr.put o.dst (some und), putK s.kn o.dst none, s.st, 0 :: s.ks, .z 0 :: s.bk⟩
def RSt.know (s : RSt) (t : Nat) (b : Bool) : RSt := { s with kn := (t, some b) :: s.kn }
def stepG (n : Nat) (ops : Array Oper) (o : Oper) (s : RSt) : T RSt := match o.guard with
 | none => stepOp c n o s
 | some (j, want) => match guardSlot ops j with
  | none => .fail
  | some t => match s.kn.get t with
   | some b => bif b == want then stepOp c n o s else bif dstOk n o.dst then .ret (skipOp o s) else .fail
   | none => match s.fr.get t with
    | some (.imm .bool x) => bif dstOk n o.dst then
      .ite x (bif want then stepOp c n o (s.know t true) else .ret (skipOp o (s.know t true)))
          (bif want then .ret (skipOp o (s.know t false)) else stepOp c n o (s.know t false))
     else .fail
    | some (.tup []) => bif dstOk n o.dst then .ret (skipOp o s) else .fail
    | _ => .fail
def runOps (n : Nat) (ops : Array Oper) : List Oper → RSt → T RSt
 | [], s => .ret s
 | o :: l, s => (stepG c n ops o s).bind fun s' => runOps n ops l s'
def tmpsOf (ops : Array Oper) (o : Oper) : List Nat :=
 (match o.dst with | some d => [d] | none => []) ++
 (match o.guard with | some (j, _) => (match guardSlot ops j with | some s => [s] | none => []) | none => []) ++
 o.op.operands.toList.filterMap fun | .tmp t => some t | _ => none
def befores (l : List Oper) : List Nat → List Nat
 | acc => match l with
  | [] => acc
  | o :: r => befores r (acc ++ [o.after.toList.foldl (fun s e => bif Region.binds .any e then s ||| 2 ^ e.on ||| acc.getD e.on 0 else s) 0])
def ordered (bs : List Nat) (i j : Nat) : Bool := Nat.testBit (bs.getD j 0) i
def clash (k l : Nat) : Bool := (Nat.beq k 2 && !Nat.beq l 0) || (Nat.beq l 2 && !Nat.beq k 0)
def pairOk {K : Type} (cl : K → K → Bool) (bs : List Nat) (xs : List (Nat × Option Nat × List Nat × K)) (j : Nat) (dj : Option Nat) (tj : List Nat) (kj : K) : Bool :=
 xs.all fun x => ordered bs x.1 j || (!(match x.2.1 with | some d => tj.contains d | none => false) && !(match dj with | some d => x.2.2.1.contains d | none => false) && !cl x.2.2.2 kj)
def pairsOk {K : Type} (cl : K → K → Bool) (ops : Array Oper) (bs : List Nat) : List Oper → List K → Nat → List (Nat × Option Nat × List Nat × K) → Bool
 | [], _, _, _ => true
 | o :: l, k :: ks, j, xs => let tj := tmpsOf ops o; pairOk cl bs xs j o.dst tj k && pairsOk cl ops bs l ks (j + 1) ((j, o.dst, tj, k) :: xs)
 | _, _, _, _ => false
def edgesOk : List Oper → Nat → Bool
 | [], _ => true
 | o :: l, j => o.after.toList.all (fun e => !Region.binds .any e || Nat.blt e.on j) && edgesOk l (j + 1)
def drawOk1 (ops : Array Oper) (ks : List Nat) : Bool :=
 let l := ops.toList
 edgesOk l 0 && pairsOk clash ops (befores l []) l ks 0 []
def isAl (o : Oper) : Bool := (match o.op with | .alloc _ => true | _ => false) && o.guard.isNone && o.dst.isSome
def kinds3 : List Oper → List Nat → List Nat
 | o :: l, k :: ks => (bif isAl o then 3 else k) :: kinds3 l ks
 | _, _ => []
def clash2 (k l : Nat) : Bool := bif Nat.beq k 3 && Nat.beq l 3 then false else clash (bif Nat.beq k 3 then 2 else k) (bif Nat.beq l 3 then 2 else l)
def alIdx : List Oper → Nat → List Nat
 | [], _ => []
 | o :: l, i => bif isAl o then i :: alIdx l (i + 1) else alIdx l (i + 1)
def allocsOk (bs al : List Nat) (n : Nat) : Bool := (List.range n).all fun j => !(al.any fun p => ordered bs p j) || al.all fun p => ordered bs p j
def drawOk2 (ops : Array Oper) (ks : List Nat) : Bool :=
 let l := ops.toList
 edgesOk l 0 && (ks.all fun k => Nat.ble k 2) && pairsOk clash2 ops (befores l []) l (kinds3 l ks) 0 [] && allocsOk (befores l []) (alIdx l 0) l.length
def clashR : RK → RK → Bool
 | .rd b, .wr A => !(A.any (Nat.beq b))
 | .wr A, .rd b => !(A.any (Nat.beq b))
 | .rd b, .up a => Nat.beq a b
 | .up a, .rd b => Nat.beq a b
 | .up a, .up b => Nat.beq a b
 | x, y => clash x.base y.base
def drawOkR (ops : Array Oper) (ks : List RK) : Bool :=
 let l := ops.toList
 edgesOk l 0 && pairsOk clashR ops (befores l []) l ks 0 []
def drawOk (ops : Array Oper) (ks : List Nat) (bk : List RK) : Bool := drawOk1 ops ks || drawOk2 ops ks || drawOkR ops bk
def runRegion (n : Nat) (ops : Array Oper) (draw : Bool) (fr : Fr) (kn : Kn) (st : St) : T RSt :=
 (runOps c n ops ops.toList ⟨fr, kn, st, [], []⟩).bind fun s => bif !draw || drawOk ops s.ks.reverse s.bk.reverse then .ret s else .fail
structure EOut where
 ex : Ex
 fr : Fr
 kn : Kn
 st : St
structure LOut where
 ex : Ex
 out : List (Nat × D)
 st : St
abbrev Loops := Nat → Fr → St → T LOut
def setL (l : List (Nat × D)) : Fr := l.map fun p => (p.1, some p.2)
def ev (n : Nat) (L : Loops) : Code → Fr → Kn → St → T EOut
 | .skip, fr, kn, st => .ret ⟨.normal, fr, kn, st⟩
 | .region _ ops draw, fr, kn, st => (runRegion c n ops draw fr kn st).bind fun s => .ret ⟨.normal, s.fr, s.kn, s.st⟩
 | .seq a b, fr, kn, st => (ev n L a fr kn st).bind fun r => match r.ex with
  | .normal => ev n L b r.fr r.kn r.st
  | _ => .ret r
 | .cond x a b, fr, kn, st => match knownA kn x with
  | some true => ev n L a fr kn st
  | some false => ev n L b fr kn st
  | none => match x with
   | .tmp t => match fr.get t with
    | some (.imm .bool v) => .ite v (ev n L a fr ((t, some true) :: kn) st) (ev n L b fr ((t, some false) :: kn) st)
    | _ => .fail
   | _ => .fail
 | .block id (.loop _), fr, _, st => (L id fr st).bind fun r => match r.ex with
   | .exit id' => bif Nat.beq id' id then .ret ⟨.normal, setL r.out, [], r.st⟩ else .ret ⟨.exit id', setL r.out, [], r.st⟩
   | .normal => .fail
   | x => .ret ⟨x, setL r.out, [], r.st⟩
 | .block id a, fr, kn, st => (ev n L a fr kn st).bind fun r => match r.ex with
  | .exit id' => bif Nat.beq id' id then .ret { r with ex := .normal } else .ret r
  | _ => .ret r
 | .exit id, fr, kn, st => .ret ⟨.exit id, fr, kn, st⟩
 | .ret, fr, kn, st => .ret ⟨.ret, fr, kn, st⟩
 | _, _, _, _ => .fail
def argFr : List D → Nat → Fr
 | [], _ => []
 | d :: r, i => (i, some d) :: argFr r (i + 1)
def resOf (fr : Fr) (st : St) : List ResultVar → T (List D)
 | [] => .ret []
 | .tmp t :: r => match fr.get t with
  | some d => (resOf fr st r).bind fun l => .ret (d :: l)
  | none => .fail
 | .cell a t :: r => match fr.get a with
  | some (.ptr b off) => match st[b]? with
   | some (.var d) => match subD c t d off with
    | some x => (resOf fr st r).bind fun l => .ret (x :: l)
    | none => .fail
   | _ => .fail
  | _ => .fail
def closed1 (n : Nat) : D → Bool
 | .ptr b _ => Nat.blt b n
 | .optp b _ => Nat.blt b n
 | .eptr b .. => Nat.blt b n
 | .ms b .. => Nat.blt b n
 | .clo .. | .agg _ | .tup _ | .iface .. => false
 | _ => true
def closedD (n : Nat) : D → Bool
 | .clo _ l => l.all (closed1 n)
 | .agg l => l.all (closed1 n)
 | .iface _ d => closed1 n d
 | d => closed1 n d
def closedB (n : Nat) : Blk → Bool
 | .var d => closedD n d
 | _ => true
end
end Go.AM
namespace Go.AM
open Go.RowKit
inductive Rc (w : World) (ok : Nat → Prop) : (τ : Ty) → den τ → List Value → Prop
 | int (k : IntKind) (n : Int) : Rc w ok (.int k) n [.int k n]
 | bool (b : Bool) : Rc w ok .bool b [.bool b]
 | str (s : Str) : Rc w ok .str s [.string ⟨s.toArray⟩]
 | slNil (e : Ty) (a : Option Addr) : Rc w ok (.sl e) ([] : List (den e)) [.slice a 0 0]
 | sl (e : Ty) (l : List (den e)) (blk off cap : Nat) (f : Nat → List Value) (hok : ok blk) (hcap : l.length ≤ cap)
   (h : ∀ i (hi : i < l.length), Rc w ok e l[i] (f i))
   (hc : ∀ i, i < l.length → ∀ j v, (f i)[j]? = some v → w.cell? ⟨blk, off + i * e.size + j, none⟩ = some v) :
   Rc w ok (.sl e) l [.slice (some ⟨blk, off, none⟩) l.length cap]
 | nil : Rc w ok .nil () []
 | cons (a b : Ty) (x : den a) (y : den b) (c1 c2 : List Value) (h1 : Rc w ok a x c1) (h2 : Rc w ok b y c2) : Rc w ok (.cons a b) (x, y) (c1 ++ c2)
 | expr (k : Int) (n : den ratTy) (s : Str) (l : List Expr) (cs : List Value) (h : Rc w ok exprF (k, n, s, l, ()) cs) : Rc w ok .expr (.mk k n s l) cs
def Same (w w' : World) (ok ok' : Nat → Prop) : Prop := ∀ k, ok k → ok' k ∧ w'.heap[k]? = w.heap[k]?
theorem cell_same {w w' : World} {a : Addr} (h : w'.heap[a.block]? = w.heap[a.block]?) : w'.cell? a = w.cell? a := by simp [World.cell?, h]
section
variable {w w' : World} {ok ok' : Nat → Prop}
theorem Rc.mono {τ : Ty} {x : den τ} {cs : List Value} (hs : Same w w' ok ok') (h : Rc w ok τ x cs) : Rc w' ok' τ x cs := by
 induction h with
 | int k n => exact .int k n
 | bool b => exact .bool b
 | str s => exact .str s
 | slNil e a => exact .slNil e a
 | sl e l blk off cap f hok hcap h hc ih => exact .sl e l blk off cap f (hs _ hok).1 hcap ih fun i hi j v hv => by rw [cell_same (hs _ hok).2]; exact hc i hi j v hv
 | nil => exact .nil
 | cons a b x y c1 c2 h1 h2 i1 i2 => exact .cons a b x y c1 c2 i1 i2
 | expr k n s l cs h ih => exact .expr k n s l cs ih
theorem Rc.len {τ : Ty} {x : den τ} {cs : List Value} (h : Rc w ok τ x cs) : cs.length = τ.size := by
 induction h with
 | cons a b x y c1 c2 h1 h2 i1 i2 => simp [Ty.size, i1, i2]
 | expr k n s l cs h ih => simpa [Ty.size] using ih
 | _ => simp [Ty.size]
theorem Rc.one {τ : Ty} {x : den τ} {cs : List Value} (h : Rc w ok τ x cs) : ∀ v ∈ cs, v.oneCell' = true := by
 induction h with
 | cons a b x y c1 c2 h1 h2 i1 i2 => intro v hv; rcases List.mem_append.1 hv with h | h; exact i1 v h; exact i2 v h
 | expr k n s l cs h ih => exact ih
 | _ => intro v hv; simp at hv; try (subst hv; rfl)
theorem Rc.int_inv {k : IntKind} {n : Int} {cs : List Value} (h : Rc w ok (.int k) n cs) : cs = [.int k n] := by cases h; rfl
theorem Rc.bool_inv {n : Bool} {cs : List Value} (h : Rc w ok .bool n cs) : cs = [.bool n] := by cases h; rfl
theorem Rc.str_inv {n : Str} {cs : List Value} (h : Rc w ok .str n cs) : cs = [.string ⟨n.toArray⟩] := by cases h; rfl
theorem Rc.cons_inv {a b : Ty} {x : den (.cons a b)} {cs : List Value} (h : Rc w ok (.cons a b) x cs) : ∃ c1 c2, cs = c1 ++ c2 ∧ Rc w ok a x.1 c1 ∧ Rc w ok b x.2 c2 := by
 cases h with | cons _ _ x y c1 c2 h1 h2 => exact ⟨c1, c2, rfl, h1, h2⟩
theorem Rc.nil_inv {x : den .nil} {cs : List Value} (h : Rc w ok .nil x cs) : cs = [] := by cases h; rfl
theorem Rc.expr_inv {x : Expr} {cs : List Value} (h : Rc w ok .expr x cs) : Rc w ok exprF x.flds cs := by cases h with | expr k n s l cs h => exact h
theorem Rc.sl_inv {e : Ty} {l : List (den e)} {cs : List Value} (h : Rc w ok (.sl e) l cs) : (l = [] ∧ ∃ a, cs = [.slice a 0 0]) ∨
  ∃ (blk off cap : Nat) (f : Nat → List Value), cs = [.slice (some ⟨blk, off, none⟩) l.length cap] ∧ ok blk ∧ l.length ≤ cap ∧ (∀ i (hi : i < l.length), Rc w ok e l[i] (f i)) ∧
   (∀ i, i < l.length → ∀ j v, (f i)[j]? = some v → w.cell? ⟨blk, off + i * e.size + j, none⟩ = some v) := by
 cases h with
 | slNil _ a => exact .inl ⟨rfl, a, rfl⟩
 | sl _ _ blk off cap f hok hcap h hc => exact .inr ⟨blk, off, cap, f, rfl, hok, hcap, h, hc⟩
end
def pk (τ : Ty) (cs : List Value) : Value := if τ.isAgg then .agg cs.toArray else cs.headD undef
structure KS where
 w : World
 ok : Nat → Prop
 ph : List (Option (Nat × Nat))
 st : St
def MsRel (ph : List (Option (Nat × Nat))) (b len0 : Nat) (e : Ty) (off len : Nat) (v : Value) : Prop :=
 off + len ≤ len0 ∧ ((len = 0 ∧ off = 0 ∧ v = .slice none 0 0 ∧ ph[b]? = some none) ∨
  ∃ (blk n o cap : Nat), ph[b]? = some (some (blk, n)) ∧ v = .slice (some ⟨blk, o, none⟩) len cap ∧ len ≤ cap ∧ (off + cap) * e.size ≤ n ∧ (cap = 0 ∨ o = off * e.size))
def Old (st : St) (b ver : Nat) : Prop := st[b]? = some .dead ∨ ∃ (v0 : Nat) (e0 : Ty) (xs0 : List (den e0)), st[b]? = some (.arr v0 e0 xs0) ∧ ver ≤ v0
def D.one : D → Bool
 | .imm τ _ => !τ.isAgg
 | .agg _ | .tup _ => false
 | _ => true
def cloV (f : Nat) (vs : List Value) : Value := bif Nat.ble 1000000 f then .func (.func (f % 1000000)) vs.toArray #[] else .func (.func f) #[] vs.toArray
theorem cloV_fn {f : Nat} (h : Nat.blt f 1000000 = true) (vs : List Value) : cloV f vs = .func (.func f) #[] vs.toArray := by
 have : Nat.ble 1000000 f = false := by
  cases hb : Nat.ble 1000000 f with
  | false => rfl
  | true => have h1 := Nat.le_of_ble_eq_true hb; have h2 := Nat.le_of_ble_eq_true h; omega
 unfold cloV; rw [this]; rfl
theorem cloV_bound {f : Nat} (h : Nat.blt f 1000000 = true) (vs : List Value) : cloV (f + 1000000) vs = .func (.func f) vs.toArray #[] := by
 have h1 : Nat.ble 1000000 (f + 1000000) = true := Nat.ble_eq_true_of_le (by omega)
 have h2 := Nat.le_of_ble_eq_true h
 have h3 : (f + 1000000) % 1000000 = f := by omega
 unfold cloV; rw [h1, h3]; rfl
theorem cloV_cells (f : Nat) (vs : List Value) : (cloV f vs).cells.toList = [cloV f vs] := by
 unfold cloV; cases Nat.ble 1000000 f <;> rfl
theorem cloV_one (f : Nat) (vs : List Value) : (cloV f vs).oneCell' = true := by
 unfold cloV; cases Nat.ble 1000000 f <;> rfl
theorem cloV_cases (f : Nat) (vs : List Value) : ∃ g a b, cloV f vs = .func (.func g) a b := by
 unfold cloV; cases Nat.ble 1000000 f <;> exact ⟨_, _, _, rfl⟩
inductive RD (κ : KS) : D → Value → Prop
 | imm (τ : Ty) (x : den τ) (cs : List Value) (h : Rc κ.w κ.ok τ x cs) : RD κ (.imm τ x) (pk τ cs)
 | tightNil (e : Ty) (a : Option Addr) : RD κ (.tight e ([] : List (den e)) false) (.slice a 0 0)
 | tight (e : Ty) (l : List (den e)) (ne : Bool) (blk off : Nat) (f : Nat → List Value) (hne : ne = true → l ≠ []) (hok : κ.ok blk)
   (h : ∀ i (hi : i < l.length), Rc κ.w κ.ok e l[i] (f i))
   (hc : ∀ i, i < l.length → ∀ j v, (f i)[j]? = some v → κ.w.cell? ⟨blk, off + i * e.size + j, none⟩ = some v) :
   RD κ (.tight e l ne) (.slice (some ⟨blk, off, none⟩) l.length l.length)
 | nilsl : RD κ .nilsl (.slice none 0 0)
 | nilp : RD κ .nilp (.pointer none)
 | niface : RD κ .niface .nilIface
 | nilclo : RD κ .nilclo .nilFunc
 | nilmap : RD κ .nilmap (.map none)
 | unk (v : Value) (h : v.oneCell' = true) : RD κ .unk v
 | bnil (T : Nat) : RD κ (.bnil T) (.pointer none)
 | optpN (b T : Nat) (d : D) (hd : κ.st[b]? = some (.var d)) : RD κ (.optp b T) (.pointer none)
 | optpP (b T blk n : Nat) (d : D) (hd : κ.st[b]? = some (.var d)) (h : κ.ph[b]? = some (some (blk, n))) : RD κ (.optp b T) (.pointer (some ⟨blk, 0, none⟩))
 | ptr (b off blk n : Nat) (d : D) (hd : κ.st[b]? = some (.var d)) (h : κ.ph[b]? = some (some (blk, n))) : RD κ (.ptr b off) (.pointer (some ⟨blk, off, none⟩))
 | rptr (τ : Ty) (x : den τ) (cs : List Value) (blk off : Nat) (hok : κ.ok blk) (h : Rc κ.w κ.ok τ x cs)
   (hc : ∀ j v, cs[j]? = some v → κ.w.cell? ⟨blk, off + j, none⟩ = some v) : RD κ (.rptr τ x) (.pointer (some ⟨blk, off, none⟩))
 | eptr (b ver : Nat) (e : Ty) (idx off blk o : Nat) (hb : Old κ.st b ver)
   (h : ∀ xs : List (den e), κ.st[b]? = some (.arr ver e xs) → idx < xs.length → ∃ n : Nat, κ.ph[b]? = some (some (blk, n)) ∧ o = idx * e.size + off) :
   RD κ (.eptr b ver e idx off) (.pointer (some ⟨blk, o, none⟩))
 | ms (b ver : Nat) (e : Ty) (off len cap : Nat) (a : Option Addr) (hb : Old κ.st b ver) (hcap : len ≤ cap) (ha : a = none → cap = 0) (hsp : ∀ p, a = some p → p.spot = none)
   (h : ∀ xs : List (den e), κ.st[b]? = some (.arr ver e xs) → MsRel κ.ph b xs.length e off len (.slice a len cap)) : RD κ (.ms b ver e off len) (.slice a len cap)
 | clo (f : Nat) (l : List D) (vs : List Value) (hl : l.length = vs.length) (h : ∀ i (h1 : i < l.length) (h2 : i < vs.length), RD κ l[i] vs[i]) : RD κ (.clo f l) (cloV f vs)
 | agg (l : List D) (vs : List Value) (hl : l.length = vs.length) (ho : ∀ d ∈ l, d.one = true) (h : ∀ i (h1 : i < l.length) (h2 : i < vs.length), RD κ l[i] vs[i]) : RD κ (.agg l) (.agg vs.toArray)
 | tup (l : List D) (vs : List Value) (hl : l.length = vs.length) (h : ∀ i (h1 : i < l.length) (h2 : i < vs.length), RD κ l[i] vs[i]) : RD κ (.tup l) (.tuple vs.toArray)
 | iface (t : Nat) (d : D) (v : Value) (h : RD κ d v) : RD κ (.iface t d) (.iface t v)
def RDs (κ : KS) (l : List D) (vs : List Value) : Prop := l.length = vs.length ∧ ∀ i (h1 : i < l.length) (h2 : i < vs.length), RD κ l[i] vs[i]
def BlkRel [RowT] (κ : KS) (b : Nat) : Blk → Prop
 | .dead => True
 | .var d => ∃ (blk n : Nat) (cs : Array Value) (t : TypeId), κ.ph[b]? = some (some (blk, n)) ∧ κ.w.heap[blk]? = some (.cells cs t (0, 0)) ∧ cs.size = n ∧ RDs κ (flatD d) cs.toList ∧ (∀ x ∈ flatD d, x.one = true) ∧ ∀ T, d.typed = some T → t = T
 | .arr _ e xs => 0 < e.size ∧ ((xs = [] ∧ κ.ph[b]? = some none) ∨
   ∃ (blk n : Nat) (cs : Array Value) (t : TypeId), κ.ph[b]? = some (some (blk, n)) ∧ κ.w.heap[blk]? = some (.cells cs t (0, 0)) ∧ cs.size = n ∧ xs.length * e.size ≤ n ∧ rowOk e t ∧
    ∃ f : Nat → List Value, ∀ i (hi : i < xs.length), Rc κ.w κ.ok e xs[i] (f i) ∧ ∀ j v, (f i)[j]? = some v → cs[i * e.size + j]? = some v)
class Glob extends RowT where
 tab : List (Nat × (Obj → Prop))
def GlobOk [Glob] (w : World) (ok : Nat → Prop) : Prop := ∀ x ∈ Glob.tab, ok x.1 ∧ ∃ o, w.heap[x.1]? = some o ∧ x.2 o
theorem GlobOk.mono [Glob] {w w' : World} {ok ok' : Nat → Prop} (h : GlobOk w ok) (hs : Same w w' ok ok') : GlobOk w' ok' := fun x hx => by
 obtain ⟨h1, o, h2, h3⟩ := h x hx
 obtain ⟨g1, g2⟩ := hs _ h1
 exact ⟨g1, o, by rw [g2]; exact h2, h3⟩
structure Inv [Glob] (κ : KS) : Prop where
 len : κ.ph.length = κ.st.length
 okLt : ∀ k, κ.ok k → k < κ.w.heap.size
 apart : ∀ (b blk n : Nat), κ.ph[b]? = some (some (blk, n)) → blk < κ.w.heap.size ∧ ¬ κ.ok blk
 inj : ∀ (b b' blk n n' : Nat), κ.ph[b]? = some (some (blk, n)) → κ.ph[b']? = some (some (blk, n')) → b = b'
 blk : ∀ (b : Nat) (x : Blk), κ.st[b]? = some x → BlkRel κ b x
 gl : GlobOk κ.w κ.ok
structure Ext (κ κ' : KS) : Prop where
 os : κ'.w.os = κ.w.os
 tape : κ'.w.tape = κ.w.tape
 output : κ'.w.output = κ.w.output
 size : κ.w.heap.size ≤ κ'.w.heap.size
 same : Same κ.w κ'.w κ.ok κ'.ok
 fresh : ∀ k, κ'.ok k → κ.ok k ∨ κ.w.heap.size ≤ k ∨ ∃ b n : Nat, κ.ph[b]? = some (some (k, n))
 phs : ∀ (b blk n : Nat), κ'.ph[b]? = some (some (blk, n)) → κ.ph[b]? = some (some (blk, n)) ∨ κ.w.heap.size ≤ blk
 var : ∀ (b : Nat) (d : D), κ.st[b]? = some (.var d) → (∃ d', κ'.st[b]? = some (.var d')) ∧ κ'.ph[b]? = κ.ph[b]?
 arr : ∀ (b v0 : Nat) (e : Ty) (xs0 : List (den e)), κ.st[b]? = some (.arr v0 e xs0) → κ'.st[b]? = some .dead ∨
  ∃ (v1 : Nat) (xs1 : List (den e)), κ'.st[b]? = some (.arr v1 e xs1) ∧ v0 ≤ v1 ∧ (v0 = v1 → κ'.ph[b]? = κ.ph[b]? ∧ xs0.length = xs1.length)
 dead : ∀ (b : Nat), κ.st[b]? = some .dead → κ'.st[b]? = some .dead
 stlen : κ.st.length ≤ κ'.st.length
 frame : ∀ k, k < κ.w.heap.size → (∀ (b n : Nat), κ.ph[b]? ≠ some (some (k, n))) → κ'.w.heap[k]? = κ.w.heap[k]?
theorem Ext.refl (κ : KS) : Ext κ κ :=
 ⟨rfl, rfl, rfl, Nat.le_refl _, fun _ h => ⟨h, rfl⟩, fun _ h => .inl h, fun _ _ _ h => .inl h, fun _ d h => ⟨⟨d, h⟩, rfl⟩,
  fun _ ver _ xs h => .inr ⟨ver, xs, h, Nat.le_refl _, fun _ => ⟨rfl, rfl⟩⟩, fun _ h => h, Nat.le_refl _, fun _ _ _ => rfl⟩
theorem Ext.trans {a b c : KS} (h : Ext a b) (k : Ext b c) : Ext a c := by
 refine ⟨k.os.trans h.os, k.tape.trans h.tape, k.output.trans h.output, Nat.le_trans h.size k.size, ?_, ?_, ?_, ?_, ?_, fun b hb => k.dead b (h.dead b hb), Nat.le_trans h.stlen k.stlen, ?_⟩
 ·intro i hi
  obtain ⟨h1, h2⟩ := h.same i hi
  obtain ⟨h3, h4⟩ := k.same i h1
  exact ⟨h3, h4.trans h2⟩
 ·intro i hi
  rcases k.fresh i hi with h1 | h1 | ⟨b, n, h1⟩
  ·exact h.fresh i h1
  ·exact .inr (.inl (Nat.le_trans h.size h1))
  ·rcases h.phs b i n h1 with h2 | h2
   ·exact .inr (.inr ⟨b, n, h2⟩)
   ·exact .inr (.inl h2)
 ·intro i blk n hi
  rcases k.phs i blk n hi with h1 | h1
  ·exact h.phs i blk n h1
  ·exact .inr (Nat.le_trans h.size h1)
 ·intro i d hi
  obtain ⟨⟨d', hd'⟩, hp⟩ := h.var i d hi
  obtain ⟨hd'', hp'⟩ := k.var i d' hd'
  exact ⟨hd'', hp'.trans hp⟩
 ·intro i v0 e xs0 hi
  rcases h.arr i v0 e xs0 hi with h1 | ⟨v1, x1, h1, h2, h3⟩
  ·exact .inl (k.dead i h1)
  ·rcases k.arr i v1 e x1 h1 with g1 | ⟨v2, x2, g1, g2, g3⟩
   ·exact .inl g1
   ·refine .inr ⟨v2, x2, g1, Nat.le_trans h2 g2, fun he => ?_⟩
    have e1 : v1 = v2 := by omega
    have e0 : v0 = v1 := by omega
    exact ⟨(g3 e1).1.trans (h3 e0).1, (h3 e0).2.trans (g3 e1).2⟩
 ·intro i hi hn
  refine (k.frame i (Nat.lt_of_lt_of_le hi h.size) fun b n hb => ?_).trans (h.frame i hi hn)
  rcases h.phs b i n hb with h1 | h1
  ·exact hn b n h1
  ·omega
theorem Ext.old {κ κ' : KS} (x : Ext κ κ') {b ver : Nat} (h : Old κ.st b ver) : Old κ'.st b ver := by
 rcases h with h | ⟨v0, e0, xs0, h, hv⟩
 ·exact .inl (x.dead b h)
 ·rcases x.arr b v0 e0 xs0 h with h1 | ⟨v1, x1, h1, h2, _⟩
  ·exact .inl h1
  ·exact .inr ⟨v1, e0, x1, h1, Nat.le_trans hv h2⟩
theorem Ext.back {κ κ' : KS} (x : Ext κ κ') {b ver : Nat} (h : Old κ.st b ver) {e : Ty} {xs : List (den e)} (hx : κ'.st[b]? = some (.arr ver e xs)) :
  ∃ xs0 : List (den e), κ.st[b]? = some (.arr ver e xs0) ∧ κ'.ph[b]? = κ.ph[b]? ∧ xs0.length = xs.length := by
 rcases h with h | ⟨v0, e0, xs0, h, hv⟩
 ·have := x.dead b h; rw [hx] at this; cases this
 ·rcases x.arr b v0 e0 xs0 h with h1 | ⟨v1, x1, h1, h2, h3⟩
  ·rw [hx] at h1; cases h1
  ·rw [hx] at h1
   cases h1
   have e0 : v0 = ver := by omega
   subst e0
   exact ⟨xs0, h, (h3 rfl).1, (h3 rfl).2⟩
theorem RD.mono {κ κ' : KS} (x : Ext κ κ') {d : D} {v : Value} (h : RD κ d v) : RD κ' d v := by
 induction h with
 | imm τ y cs h => exact .imm τ y cs (h.mono x.same)
 | tightNil e a => exact .tightNil e a
 | tight e l ne blk off f hne hok h hc => exact .tight e l ne blk off f hne (x.same _ hok).1 (fun i hi => (h i hi).mono x.same) fun i hi j v hv => by rw [cell_same (x.same _ hok).2]; exact hc i hi j v hv
 | nilsl => exact .nilsl
 | nilp => exact .nilp
 | niface => exact .niface
 | nilclo => exact .nilclo
 | nilmap => exact .nilmap
 | unk v h => exact .unk v h
 | bnil T => exact .bnil T
 | optpN b T d hd =>
  obtain ⟨⟨d', hd'⟩, hp⟩ := x.var b d hd
  exact .optpN b T d' hd'
 | optpP b T blk n d hd h =>
  obtain ⟨⟨d', hd'⟩, hp⟩ := x.var b d hd
  exact .optpP b T blk n d' hd' (hp.trans h)
 | ptr b off blk n d hd h =>
  obtain ⟨⟨d', hd'⟩, hp⟩ := x.var b d hd
  exact .ptr b off blk n d' hd' (hp.trans h)
 | rptr τ y cs blk off hok h hc => exact .rptr τ y cs blk off (x.same _ hok).1 (h.mono x.same) fun j v hv => by rw [cell_same (x.same _ hok).2]; exact hc j v hv
 | eptr b ver e idx off blk o hb h =>
  refine .eptr b ver e idx off blk o (x.old hb) fun xs hx hi => ?_
  obtain ⟨xs0, h1, h2, h3⟩ := x.back hb hx
  rw [h2]
  exact h xs0 h1 (by omega)
 | ms b ver e off len cap a hb hcap ha hsp h =>
  refine .ms b ver e off len cap a (x.old hb) hcap ha hsp fun xs hx => ?_
  obtain ⟨xs0, h1, h2, h3⟩ := x.back hb hx
  have := h xs0 h1
  unfold MsRel at this ⊢
  rw [h2, ← h3]
  exact this
 | clo f l vs hl h ih => exact .clo f l vs hl ih
 | agg l vs hl ho h ih => exact .agg l vs hl ho ih
 | tup l vs hl h ih => exact .tup l vs hl ih
 | iface t d v h ih => exact .iface t d v ih
end Go.AM
namespace Go.AM
section
variable {α β : Type}
theorem T.leads_bind {t : T α} {k : α → T β} {b : β} : (t.bind k).leads b ↔ ∃ a, t.leads a ∧ (k a).leads b := by
 induction t with
 | ret a => simp [T.bind, T.leads]
 | ite c t e i1 i2 =>
  simp only [T.bind, T.leads, i1, i2]
  constructor
  ·rintro (⟨h, a, x, y⟩ | ⟨h, a, x, y⟩)
   ·exact ⟨a, .inl ⟨h, x⟩, y⟩
   ·exact ⟨a, .inr ⟨h, x⟩, y⟩
  ·rintro ⟨a, ⟨h, x⟩ | ⟨h, x⟩, y⟩
   ·exact .inl ⟨h, a, x, y⟩
   ·exact .inr ⟨h, a, x, y⟩
 | obl p t ih =>
  simp only [T.bind, T.leads, ih]; constructor
  ·rintro ⟨h, a, x, y⟩; exact ⟨a, ⟨h, x⟩, y⟩
  ·rintro ⟨a, ⟨h, x⟩, y⟩; exact ⟨h, a, x, y⟩
 | fail => simp [T.bind, T.leads]
theorem T.leads_ofOpt {o : Option α} {a : α} : (T.ofOpt o).leads a ↔ o = some a := by cases o <;> simp [T.ofOpt, T.leads]
end
section
variable {κ : KS}
theorem RDs.nil : RDs κ [] [] := ⟨rfl, fun i h _ => absurd h (Nat.not_lt_zero i)⟩
theorem RDs.cons {d : D} {v : Value} {l : List D} {vs : List Value} (h : RD κ d v) (t : RDs κ l vs) : RDs κ (d :: l) (v :: vs) :=
 ⟨by simp [t.1], fun i h1 h2 => by cases i with | zero => exact h | succ i => exact t.2 i (by simpa using h1) (by simpa using h2)⟩
theorem RDs.cons_inv {d : D} {l : List D} {vs : List Value} (h : RDs κ (d :: l) vs) : ∃ v r, vs = v :: r ∧ RD κ d v ∧ RDs κ l r := by
 obtain ⟨hl, h⟩ := h
 cases vs with
 | nil => simp at hl
 | cons v r => exact ⟨v, r, rfl, h 0 (by simp) (by simp), by simpa using hl, fun i h1 h2 => h (i + 1) (by simpa using h1) (by simpa using h2)⟩
theorem RDs.nil_inv {vs : List Value} (h : RDs κ [] vs) : vs = [] := List.eq_nil_of_length_eq_zero h.1.symm
theorem RDs.append {l l' : List D} {vs vs' : List Value} (h : RDs κ l vs) (h' : RDs κ l' vs') : RDs κ (l ++ l') (vs ++ vs') := by
 induction l generalizing vs with
 | nil => rw [h.nil_inv]; exact h'
 | cons d l ih => obtain ⟨v, r, rfl, h1, h2⟩ := h.cons_inv; exact .cons h1 (ih h2)
theorem RDs.append_inv {l l' : List D} {vs : List Value} (h : RDs κ (l ++ l') vs) : ∃ v1 v2, vs = v1 ++ v2 ∧ RDs κ l v1 ∧ RDs κ l' v2 := by
 induction l generalizing vs with
 | nil => exact ⟨[], vs, rfl, .nil, h⟩
 | cons d l ih =>
  obtain ⟨v, r, rfl, h1, h2⟩ := h.cons_inv
  obtain ⟨v1, v2, rfl, h3, h4⟩ := ih h2
  exact ⟨v :: v1, v2, rfl, .cons h1 h3, h4⟩
theorem RDs.get {l : List D} {vs : List Value} (h : RDs κ l vs) {i : Nat} {d : D} (hd : l[i]? = some d) : ∃ v, vs[i]? = some v ∧ RD κ d v := by
 obtain ⟨hlt, he⟩ := List.getElem?_eq_some_iff.1 hd
 have h2 : i < vs.length := h.1 ▸ hlt
 exact ⟨vs[i], List.getElem?_eq_getElem h2, he ▸ h.2 i hlt h2⟩
theorem RDs.take {l : List D} {vs : List Value} (h : RDs κ l vs) (n : Nat) : RDs κ (l.take n) (vs.take n) :=
 ⟨by simp [h.1], fun i h1 h2 => by simp only [List.getElem_take]; exact h.2 i (by simp at h1; omega) (by simp at h2; omega)⟩
theorem RDs.drop {l : List D} {vs : List Value} (h : RDs κ l vs) (n : Nat) : RDs κ (l.drop n) (vs.drop n) :=
 ⟨by simp [h.1], fun i h1 h2 => by simp only [List.getElem_drop]; exact h.2 (n + i) (by simp at h1; omega) (by simp at h2; omega)⟩
theorem RDs.mono {κ' : KS} (x : Ext κ κ') {l : List D} {vs : List Value} (h : RDs κ l vs) : RDs κ' l vs := ⟨h.1, fun i h1 h2 => (h.2 i h1 h2).mono x⟩
theorem pk_cells {τ : Ty} {cs : List Value} (h : cs.length = τ.size) (hone : ∀ v ∈ cs, v.oneCell' = true) : (pk τ cs).cells.toList = cs := by
 unfold pk
 split
 ·simp [Value.cells]
 ·rename_i hn
  have hs : τ.size = 1 := by cases τ <;> simp [Ty.isAgg] at hn <;> rfl
  match cs, h, hone with
  | [v], _, hone =>
   have := hone v (by simp)
   simp only [List.headD_cons]
   cases v <;> first | rfl | cases this
  | [], h, _ => rw [hs] at h; cases h
  | _ :: _ :: _, h, _ => rw [hs] at h; simp at h
theorem pk_one {τ : Ty} (h : τ.isAgg = false) (v : Value) : pk τ [v] = v := by simp [pk, h]
theorem one_of_size {τ : Ty} (h : τ.isAgg = false) : τ.size = 1 := by cases τ <;> simp [Ty.isAgg] at h <;> rfl
theorem Rc.single {w : World} {ok : Nat → Prop} {τ : Ty} {x : den τ} {cs : List Value} (h : Rc w ok τ x cs) (ht : τ.isAgg = false) : ∃ v, cs = [v] := by
 have := h.len
 rw [one_of_size ht] at this
 match cs, this with
 | [v], _ => exact ⟨v, rfl⟩
theorem RD.imm1 {τ : Ty} {x : den τ} {v : Value} (ht : τ.isAgg = false) (h : Rc κ.w κ.ok τ x [v]) : RD κ (.imm τ x) v := by
 have := RD.imm τ x [v] h
 rwa [pk_one ht] at this
theorem RD.imm_inv {τ : Ty} {x : den τ} {v : Value} (h : RD κ (.imm τ x) v) : ∃ cs, Rc κ.w κ.ok τ x cs ∧ v = pk τ cs := by
 cases h with | imm _ _ cs h => exact ⟨cs, h, rfl⟩
theorem RD.imm_one {τ : Ty} {x : den τ} {v : Value} (h : RD κ (.imm τ x) v) (ht : τ.isAgg = false) : Rc κ.w κ.ok τ x [v] := by
 obtain ⟨cs, hc, rfl⟩ := RD.imm_inv h
 obtain ⟨u, rfl⟩ := hc.single ht
 rwa [pk_one ht]
theorem RD.int {k : IntKind} {n : Int} : RD κ (.imm (.int k) n) (.int k n) := RD.imm1 rfl (.int k n)
theorem RD.bool {b : Bool} : RD κ (.imm .bool b) (.bool b) := RD.imm1 rfl (.bool b)
theorem RD.str {s : Str} : RD κ (.imm .str s) (.string ⟨s.toArray⟩) := RD.imm1 rfl (.str s)
theorem RD.int_inv {k : IntKind} {n : Int} {v : Value} (h : RD κ (.imm (.int k) n) v) : v = .int k n := by have := (h.imm_one rfl).int_inv; simpa using this
theorem RD.bool_inv {b : Bool} {v : Value} (h : RD κ (.imm .bool b) v) : v = .bool b := by have := (h.imm_one rfl).bool_inv; simpa using this
theorem RD.str_inv {s : Str} {v : Value} (h : RD κ (.imm .str s) v) : v = .string ⟨s.toArray⟩ := by have := (h.imm_one rfl).str_inv; simpa using this
theorem RDs.one {d : D} {v : Value} (h : RD κ d v) : RDs κ [d] [v] := .cons h .nil
theorem flat_rds {τ : Ty} {x : den τ} {cs : List Value} (h : Rc κ.w κ.ok τ x cs) : RDs κ (flat τ x) cs := by
 induction τ generalizing cs with
 | int k => obtain ⟨v, rfl⟩ := h.single rfl; exact .one (.imm1 rfl h)
 | bool => obtain ⟨v, rfl⟩ := h.single rfl; exact .one (.imm1 rfl h)
 | str => obtain ⟨v, rfl⟩ := h.single rfl; exact .one (.imm1 rfl h)
 | sl e _ => obtain ⟨v, rfl⟩ := h.single rfl; exact .one (.imm1 rfl h)
 | nil => rw [h.nil_inv]; exact .nil
 | cons a b i1 i2 => obtain ⟨c1, c2, rfl, h1, h2⟩ := h.cons_inv; exact (i1 h1).append (i2 h2)
 | expr =>
  obtain ⟨c1, r1, rfl, h1, t1⟩ := h.expr_inv.cons_inv
  obtain ⟨c2, r2, rfl, h2, t2⟩ := t1.cons_inv
  obtain ⟨c3, r3, rfl, h3, t3⟩ := t2.cons_inv
  obtain ⟨c4, r4, rfl, h4, t4⟩ := t3.cons_inv
  have e4 := t4.nil_inv
  subst e4
  obtain ⟨d1, s1, rfl, g1, u1⟩ := h2.cons_inv
  obtain ⟨d2, s2, rfl, g2, u2⟩ := u1.cons_inv
  obtain ⟨d3, s3, rfl, g3, u3⟩ := u2.cons_inv
  have e5 := u3.nil_inv
  subst e5
  obtain ⟨v1, rfl⟩ := h1.single rfl
  obtain ⟨v3, rfl⟩ := h3.single rfl
  obtain ⟨v4, rfl⟩ := h4.single rfl
  obtain ⟨u1, rfl⟩ := g1.single rfl
  obtain ⟨u2, rfl⟩ := g2.single rfl
  obtain ⟨u3, rfl⟩ := g3.single rfl
  exact .cons (.imm1 rfl h1) (.cons (.imm1 rfl g1) (.cons (.imm1 rfl g2) (.cons (.imm1 rfl g3) (.cons (.imm1 rfl h3) (.cons (.imm1 rfl h4) .nil)))))
theorem flat_one : ∀ (τ : Ty) (x : den τ), ∀ d ∈ flat τ x, d.one = true
 | .int _, _, d, h | .bool, _, d, h | .str, _, d, h | .sl _, _, d, h => by simp [flat] at h; subst h; rfl
 | .nil, _, d, h => by simp [flat] at h
 | .cons a b, x, d, h => by
  simp only [flat, List.mem_append] at h
  rcases h with h | h
  ·exact flat_one a x.1 d h
  ·exact flat_one b x.2 d h
 | .expr, x, d, h => by simp [flat] at h; rcases h with rfl | rfl | rfl | rfl | rfl | rfl <;> rfl
theorem flat_len : ∀ (τ : Ty) (x : den τ), (flat τ x).length = τ.size
 | .int _, _ | .bool, _ | .str, _ | .sl _, _ | .nil, _ | .expr, _ => rfl
 | .cons a b, x => by simp [flat, Ty.size, flat_len a, flat_len b]
theorem one_cells {v : Value} (h : v.oneCell' = true) : v.cells = #[v] := by
 cases v <;> first | rfl | cases h
theorem flatD_rds {d : D} {v : Value} (h : RD κ d v) (ht : d.isTup = false) : RDs κ (flatD d) v.cells.toList := by
 cases h with
 | imm τ x cs h => rw [pk_cells h.len h.one]; exact flat_rds h
 | agg l vs hl ho h => exact ⟨by simpa [Value.cells, flatD] using hl, fun i h1 h2 => by simp only [Value.cells] at h2 ⊢; exact h i h1 h2⟩
 | tup => cases ht
 | tightNil e a => exact .one (.tightNil e a)
 | tight e l ne blk off f hne hok h hc => exact .one (.tight e l ne blk off f hne hok h hc)
 | nilsl => exact .one .nilsl
 | nilp => exact .one .nilp
 | niface => exact .one .niface
 | nilclo => exact .one .nilclo
 | nilmap => exact .one .nilmap
 | unk v h => rw [one_cells h]; exact .one (.unk v h)
 | bnil T => exact .one (.bnil T)
 | optpN b T d hd => exact .one (.optpN b T d hd)
 | optpP b T blk n d hd h => exact .one (.optpP b T blk n d hd h)
 | ptr b off blk n d hd h => exact .one (.ptr b off blk n d hd h)
 | rptr τ x cs blk off hok h hc => exact .one (.rptr τ x cs blk off hok h hc)
 | eptr b ver e idx off blk o hb h => exact .one (.eptr b ver e idx off blk o hb h)
 | ms b ver e off len cap a hb hcap ha hsp h => exact .one (.ms b ver e off len cap a hb hcap ha hsp h)
 | clo f l vs hl h => rw [cloV_cells]; exact .one (.clo f l vs hl h)
 | iface t d v h => exact .one (.iface t d v h)
theorem flatD_one {d : D} {v : Value} (h : RD κ d v) : ∀ x ∈ flatD d, x.one = true := by
 cases h with
 | imm τ x cs h => exact flat_one τ x
 | agg l vs hl ho h => exact ho
 | tup => intro x hx; simp [flatD] at hx
 | _ => intro x hx; simp [flatD] at hx; subst hx; rfl
theorem RD.oneCell {d : D} {v : Value} (h : RD κ d v) (ho : d.one = true) : v.oneCell' = true := by
 cases h with
 | imm τ x cs h =>
  have ht : τ.isAgg = false := by simpa [D.one] using ho
  obtain ⟨v, rfl⟩ := h.single ht
  rw [pk_one ht]
  exact h.one v (by simp)
 | agg => cases ho
 | tup => cases ho
 | unk v h => exact h
 | clo f l vs => exact cloV_one f vs
 | _ => rfl
theorem castTy_some {a b : Ty} {x : den a} {y : den b} (h : (castTy x : Option (den b)) = some y) : ∃ e : a = b, y = e ▸ x := by
 unfold castTy at h
 split at h
 ·rename_i e; cases h; exact ⟨e, rfl⟩
 ·cases h
theorem cell1_rc {τ : Ty} {d : D} {v : Value} {x : den τ} (h : RD κ d v) (hx : cell1 τ d = some x) (ht : τ.isAgg = false) : Rc κ.w κ.ok τ x [v] := by
 cases h with
 | imm σ y cs h =>
  obtain ⟨rfl, rfl⟩ := castTy_some hx
  obtain ⟨u, rfl⟩ := h.single ht
  rwa [pk_one ht]
 | tightNil e a => obtain ⟨rfl, rfl⟩ := castTy_some hx; exact .slNil e a
 | tight e l ne blk off f hne hok h hc => obtain ⟨rfl, rfl⟩ := castTy_some hx; exact .sl e _ blk off _ f hok (Nat.le_refl _) h hc
 | nilsl =>
  cases τ with
  | sl e => simp [cell1] at hx; subst hx; exact .slNil e none
  | _ => simp [cell1] at hx
 | _ => simp [cell1] at hx
theorem uncell_rc : ∀ (τ : Ty) {ds : List D} {vs : List Value} {x : den τ} {r : List D}, RDs κ ds vs → uncell τ ds = some (x, r) →
  ∃ c1 c2, vs = c1 ++ c2 ∧ Rc κ.w κ.ok τ x c1 ∧ RDs κ r c2
 | .int k, [], _, _, _, _, he | .bool, [], _, _, _, _, he | .str, [], _, _, _, _, he | .sl e, [], _, _, _, _, he | .expr, [], _, _, _, _, he => by simp [uncell] at he
 | .int k, d :: r, vs, x, r', h, he => by
  simp only [uncell] at he
  split at he
  ·rename_i y hy; cases he; obtain ⟨v, u, rfl, h1, h2⟩ := h.cons_inv; exact ⟨[v], u, rfl, cell1_rc h1 hy rfl, h2⟩
  ·cases he
 | .bool, d :: r, vs, x, r', h, he => by
  simp only [uncell] at he
  split at he
  ·rename_i y hy; cases he; obtain ⟨v, u, rfl, h1, h2⟩ := h.cons_inv; exact ⟨[v], u, rfl, cell1_rc h1 hy rfl, h2⟩
  ·cases he
 | .str, d :: r, vs, x, r', h, he => by
  simp only [uncell] at he
  split at he
  ·rename_i y hy; cases he; obtain ⟨v, u, rfl, h1, h2⟩ := h.cons_inv; exact ⟨[v], u, rfl, cell1_rc h1 hy rfl, h2⟩
  ·cases he
 | .sl e, d :: r, vs, x, r', h, he => by
  simp only [uncell] at he
  split at he
  ·rename_i y hy; cases he; obtain ⟨v, u, rfl, h1, h2⟩ := h.cons_inv; exact ⟨[v], u, rfl, cell1_rc h1 hy rfl, h2⟩
  ·cases he
 | .nil, ds, vs, x, r, h, he => by simp only [uncell] at he; cases he; exact ⟨[], vs, rfl, .nil, h⟩
 | .cons a b, ds, vs, x, r, h, he => by
  simp only [uncell] at he
  split at he
  ·rename_i y r' hy
   split at he
   ·rename_i z r'' hz
    cases he
    obtain ⟨c1, c2, rfl, h1, h2⟩ := uncell_rc a h hy
    obtain ⟨c3, c4, rfl, h3, h4⟩ := uncell_rc b h2 hz
    exact ⟨c1 ++ c3, c4, by simp, .cons a b y z c1 c3 h1 h3, h4⟩
   ·cases he
  ·cases he
 | .expr, d :: r, vs, x, r', h, he => by
  simp only [uncell] at he
  split at he
  ·cases he
  ·rename_i k hk
   split at he
   ·rename_i d1 d2 d3 d4 d5 r0
    split at he
    ·rename_i a n m s l ha hn hm hs hl
     cases he
     obtain ⟨v, u, rfl, h0, t0⟩ := h.cons_inv
     obtain ⟨v1, u1, rfl, h1, t1⟩ := t0.cons_inv
     obtain ⟨v2, u2, rfl, h2, t2⟩ := t1.cons_inv
     obtain ⟨v3, u3, rfl, h3, t3⟩ := t2.cons_inv
     obtain ⟨v4, u4, rfl, h4, t4⟩ := t3.cons_inv
     obtain ⟨v5, u5, rfl, h5, t5⟩ := t4.cons_inv
     refine ⟨[v] ++ (([v1] ++ ([v2] ++ ([v3] ++ []))) ++ ([v4] ++ ([v5] ++ []))), u5, by simp, .expr _ _ _ _ _ ?_, t5⟩
     exact .cons i64 _ k _ _ _ (cell1_rc h0 hk rfl) (.cons ratTy _ (a, n, m, ()) _ _ _ (.cons .bool _ a _ _ _ (cell1_rc h1 ha rfl) (.cons _ _ n _ _ _ (cell1_rc h2 hn rfl) (.cons _ _ m _ _ _ (cell1_rc h3 hm rfl) .nil)))
      (.cons .str _ s _ _ _ (cell1_rc h4 hs rfl) (.cons _ _ l _ _ _ (cell1_rc h5 hl rfl) .nil)))
    ·cases he
   ·cases he
theorem coe0_rd {τ : Ty} {d : D} {v : Value} {x : den τ} (h : RD κ d v) (hx : coe0 τ d = some x) : RD κ (.imm τ x) v := by
 have key : (∀ σ y, d ≠ .imm σ y) → (bif (d.isAgg == τ.isAgg) && !d.isTup then (match uncell τ (flatD d) with | some (x, []) => some x | _ => none) else none) = some x → RD κ (.imm τ x) v := by
  intro hni hx
  cases hc : (d.isAgg == τ.isAgg) && !d.isTup with
  | false => rw [hc] at hx; cases hx
  | true =>
  rw [hc] at hx
  simp only [cond_true] at hx
  simp only [Bool.and_eq_true, beq_iff_eq, Bool.not_eq_true'] at hc
  obtain ⟨hagg, htup⟩ := hc
  split at hx
  ·rename_i y hy
   cases hx
   obtain ⟨c1, c2, he, h1, h2⟩ := uncell_rc τ (flatD_rds h htup) hy
   have e2 := h2.nil_inv
   subst e2
   rw [List.append_nil] at he
   have hv : v = pk τ c1 := by
    rw [← he]
    cases hd : d.isAgg with
    | true =>
     cases d <;> simp [D.isAgg] at hd
     cases h with | agg l vs hl ho h => simp [pk, D.isAgg] at hagg ⊢; simp [← hagg, Value.cells]
    | false =>
     rw [hd] at hagg
     simp only [pk, ← hagg, Bool.false_eq_true, if_false]
     cases h <;> first | rfl | (rw [cloV_cells]; rfl) | (rename_i hu; rw [one_cells hu]; rfl) | (rename_i σ y cs hc; exact absurd rfl (hni σ y)) | (simp [D.isAgg] at hd; done) | (simp [D.isTup] at htup; done)
   rw [hv]
   exact .imm τ _ c1 h1
  ·cases hx
 cases d with
 | imm σ y => obtain ⟨rfl, rfl⟩ := castTy_some hx; exact h
 | _ => exact key (fun _ _ => nofun) hx
end
end Go.AM
namespace Go.AM
set_option linter.unusedSectionVars false
variable [Glob]
def Does (P : Program) (s : Sem Next) (κ : KS) (d : Option D) (st' : St) : Prop :=
 ∃ (κ' : KS) (n : Next) (v : Value), s.run P κ.w = .ok n κ'.w ∧ (n = .value v ∨ (n = .skip ∧ v = undef)) ∧ κ'.st = st' ∧ Inv κ' ∧ Ext κ κ' ∧ ∀ d', d = some d' → RD κ' d' v
section
variable {c : Ctx} {κ : KS}
theorem Does.pure {s : Sem Value} {d : D} {v : Value} (hi : Inv κ) (h : s.run c.P κ.w = .ok v κ.w) (hd : RD κ d v) : Does c.P (do Pure.pure (.value (← s))) κ (some d) κ.st :=
 ⟨κ, .value v, v, by simp [h], .inl rfl, rfl, hi, Ext.refl κ, fun _ he => by cases he; exact hd⟩
theorem Does.val {d : Option D} {v : Value} (hi : Inv κ) (hd : ∀ d', d = some d' → RD κ d' v) : Does c.P (Pure.pure (.value v)) κ d κ.st :=
 ⟨κ, .value v, v, rfl, .inl rfl, rfl, hi, Ext.refl κ, hd⟩
theorem sizeT_info {t n : Nat} (h : sizeT c t = some n) : ∃ i, c.P.info? t = some i ∧ i.size = n := by
 unfold sizeT at h
 cases hi : c.P.info? t with
 | none => simp [hi] at h
 | some i => exact ⟨i, rfl, by simpa [hi] using h⟩
theorem run_sizeOf {t n : Nat} (h : sizeT c t = some n) (w : World) : (sizeOf t).run c.P w = .ok n w := by
 obtain ⟨i, h1, h2⟩ := sizeT_info h
 simp [sizeOf, typeInfo, h1, h2]
theorem run_isAgg {t : Nat} {b : Bool} (h : aggT c t = some b) (w : World) : (isAgg t).run c.P w = .ok b w := by
 unfold aggT at h
 cases hu : c.P.underlying t with
 | none => simp [hu] at h
 | some d =>
  simp only [isAgg, Sem.run_bind, run_underlying hu, Result.andThen_ok]
  cases d <;> simp [hu] at h <;> simp [← h]
theorem okTy_spec {t : Nat} {τ : Ty} (h : okTy c t τ = true) : sizeT c t = some τ.size ∧ aggT c t = some τ.isAgg := by
 unfold okTy at h
 simp only [Bool.and_eq_true] at h
 obtain ⟨⟨_, h1⟩, h2⟩ := h
 constructor
 ·split at h1
  ·rename_i n hn; rw [hn, Nat.eq_of_beq_eq_true h1]
  ·cases h1
 ·split at h2
  ·rename_i b hb; rw [hb]; simpa using h2
  ·cases h2
theorem okTy_row {t : Nat} {τ : Ty} (h : okTy c t τ = true) : rowOk τ t := by
 unfold okTy at h
 simp only [Bool.and_eq_true] at h
 intro e
 subst e
 exact Nat.eq_of_beq_eq_true h.1.1
omit [Glob] in
theorem addr_add (blk o j : Nat) : (⟨blk, o, none⟩ : Addr).add j = ⟨blk, o + j, none⟩ := by unfold Addr.add; split <;> simp_all
theorem run_loadVar_cells {t : Nat} {b : Bool} {n blk o : Nat} {cs : List Value} (ha : aggT c t = some b) (hn : sizeT c t = some n) (hl : cs.length = n) (h1 : b = false → n = 1)
  (hc : ∀ j v, cs[j]? = some v → κ.w.cell? ⟨blk, o + j, none⟩ = some v) :
  (loadVar t ⟨blk, o, none⟩).run c.P κ.w = .ok (if b then .agg cs.toArray else cs.headD undef) κ.w := by
 simp only [loadVar, Sem.run_bind, run_isAgg ha, Result.andThen_ok]
 cases b with
 | true =>
  simp only [if_true, Sem.run_bind, run_sizeOf hn, Result.andThen_ok]
  rw [← hl, run_loadCells_list κ.w ⟨blk, o, none⟩ cs (fun j v hj => by rw [addr_add]; exact hc j v hj)]
  simp
 | false =>
  have := h1 rfl
  subst this
  match cs, hl with
  | [v], _ =>
   have := hc 0 v rfl
   simp only [Nat.add_zero] at this
   simp [this]
theorem imm_load {t : Nat} {τ : Ty} {x : den τ} {cs : List Value} {blk o : Nat} (ht : okTy c t τ = true) (h : Rc κ.w κ.ok τ x cs)
  (hc : ∀ j v, cs[j]? = some v → κ.w.cell? ⟨blk, o + j, none⟩ = some v) : (loadVar t ⟨blk, o, none⟩).run c.P κ.w = .ok (pk τ cs) κ.w := by
 obtain ⟨h1, h2⟩ := okTy_spec ht
 rw [run_loadVar_cells (c := c) h2 h1 h.len (fun e => one_of_size e) hc]
 cases he : τ.isAgg <;> simp [pk, he]
theorem leads_val {t : T (Option D)} {st st' : St} {d : Option D} : (runCls (.val t) st).leads (d, st') ↔ t.leads d ∧ st' = st := by
 simp only [runCls, T.leads_bind, T.leads, Prod.mk.injEq]
 constructor
 ·rintro ⟨a, h, rfl, rfl⟩; exact ⟨h, rfl⟩
 ·rintro ⟨h, rfl⟩; exact ⟨d, h, rfl, rfl⟩
theorem leads_rd {k : St → T (Option D)} {st st' : St} {d : Option D} : (runCls (.rd k) st).leads (d, st') ↔ (k st).leads d ∧ st' = st := by
 simp only [runCls, T.leads_bind, T.leads, Prod.mk.injEq]
 constructor
 ·rintro ⟨a, h, rfl, rfl⟩; exact ⟨h, rfl⟩
 ·rintro ⟨h, rfl⟩; exact ⟨d, h, rfl, rfl⟩
theorem leads_bad {st : St} {r : Option D × St} : ¬ (runCls bad st).leads r := by obtain ⟨d, st'⟩ := r; rw [bad, leads_val]; exact fun h => h.1
theorem leads_vl {x : D} {st st' : St} {d : Option D} : (runCls (AM.val x) st).leads (d, st') ↔ d = some x ∧ st' = st := by
 rw [AM.val, leads_val]; simp only [T.leads]; exact ⟨fun h => ⟨h.1.symm, h.2⟩, fun h => ⟨h.1.symm, h.2⟩⟩
theorem leads_obl {p : Prop} {x : D} {st st' : St} {d : Option D} : (runCls (.val (.obl p (.ret (some x)))) st).leads (d, st') ↔ p ∧ d = some x ∧ st' = st := by
 rw [leads_val]; simp only [T.leads]
 exact ⟨fun h => ⟨h.1.1, h.1.2.symm, h.2⟩, fun h => ⟨⟨h.1, h.2.1.symm⟩, h.2.2⟩⟩
theorem leads_oval {x : Option D} {st st' : St} {d : Option D} (h : (runCls (oval x) st).leads (d, st')) : ∃ y, x = some y ∧ d = some y ∧ st' = st := by
 cases x with
 | none => exact absurd h leads_bad
 | some y => rw [oval, leads_val] at h; exact ⟨y, rfl, h.1.symm, h.2⟩
theorem flat_rc : ∀ (τ : Ty) (x : den τ) {cs : List Value}, RDs κ (flat τ x) cs → Rc κ.w κ.ok τ x cs
 | .int k, x, cs, h => by obtain ⟨v, r, rfl, h1, h2⟩ := h.cons_inv; rw [h2.nil_inv]; exact h1.imm_one rfl
 | .bool, x, cs, h => by obtain ⟨v, r, rfl, h1, h2⟩ := h.cons_inv; rw [h2.nil_inv]; exact h1.imm_one rfl
 | .str, x, cs, h => by obtain ⟨v, r, rfl, h1, h2⟩ := h.cons_inv; rw [h2.nil_inv]; exact h1.imm_one rfl
 | .sl e, x, cs, h => by obtain ⟨v, r, rfl, h1, h2⟩ := h.cons_inv; rw [h2.nil_inv]; exact h1.imm_one rfl
 | .nil, x, cs, h => by rw [h.nil_inv]; exact .nil
 | .cons a b, x, cs, h => by
  obtain ⟨c1, c2, rfl, h1, h2⟩ := RDs.append_inv h
  exact .cons a b x.1 x.2 c1 c2 (flat_rc a x.1 h1) (flat_rc b x.2 h2)
 | .expr, .mk k (a, n, m, ()) s l, cs, h => by
  obtain ⟨v, u, rfl, h0, t0⟩ := h.cons_inv
  obtain ⟨v1, u1, rfl, h1, t1⟩ := t0.cons_inv
  obtain ⟨v2, u2, rfl, h2, t2⟩ := t1.cons_inv
  obtain ⟨v3, u3, rfl, h3, t3⟩ := t2.cons_inv
  obtain ⟨v4, u4, rfl, h4, t4⟩ := t3.cons_inv
  obtain ⟨v5, u5, rfl, h5, t5⟩ := t4.cons_inv
  rw [t5.nil_inv]
  have e : [v, v1, v2, v3, v4, v5] = [v] ++ (([v1] ++ ([v2] ++ ([v3] ++ []))) ++ ([v4] ++ ([v5] ++ []))) := rfl
  rw [e]
  exact .expr _ _ _ _ _ (.cons i64 _ k _ _ _ (h0.imm_one rfl) (.cons ratTy _ (a, n, m, ()) _ _ _ (.cons .bool _ a _ _ _ (h1.imm_one rfl) (.cons (.sl u32) (.cons (.sl u32) .nil) n (m, ()) [v2] ([v3] ++ []) (h2.imm_one rfl) (.cons (.sl u32) .nil m () [v3] [] (h3.imm_one rfl) .nil)))
      (.cons .str _ s _ _ _ (h4.imm_one rfl) (.cons (.sl .expr) .nil l () [v5] [] (h5.imm_one rfl) .nil))))
theorem subD_rd {t : Nat} {d r : D} {off : Nat} {vs : List Value} (h : subD c t d off = some r) (hd : RDs κ (flatD d) vs) (hone : ∀ x ∈ flatD d, x.one = true) :
  (∃ n, aggT c t = some true ∧ sizeT c t = some n ∧ off + n ≤ vs.length ∧ RD κ r (.agg ((vs.drop off).take n).toArray)) ∨
  (∃ v, aggT c t = some false ∧ vs[off]? = some v ∧ RD κ r v) := by
 unfold subD at h
 split at h
 ·rename_i ha
  split at h
  ·cases h
  ·rename_i n hn
   refine .inl ⟨n, ha, hn, ?_⟩
   cases hb : (Nat.beq off 0 && Nat.beq n (flatD d).length && d.aggV) with
   | true =>
    rw [hb] at h
    simp only [cond_true, Option.some.injEq] at h
    subst h
    simp only [Bool.and_eq_true] at hb
    obtain ⟨⟨h1, h2⟩, h3⟩ := hb
    have e1 : off = 0 := Nat.eq_of_beq_eq_true h1
    have e2 : n = (flatD d).length := Nat.eq_of_beq_eq_true h2
    subst e1
    have hl := hd.1
    rw [e2, hl]
    refine ⟨by omega, ?_⟩
    simp only [List.drop_zero, List.take_length]
    cases d with
    | imm τ x =>
     have := RD.imm τ x vs (flat_rc τ x hd)
     simpa [pk, show τ.isAgg = true from h3] using this
    | agg l => exact .agg l vs hl hone hd.2
    | _ => cases h3
   | false =>
    rw [hb] at h
    simp only [cond_false] at h
    split at h
    ·rename_i l hl
     cases h
     unfold takeCells at hl
     cases hle : Nat.ble (off + n) (flatD d).length with
     | false => rw [hle] at hl; cases hl
     | true =>
      rw [hle] at hl
      cases hl
      have hle' := Nat.le_of_ble_eq_true hle
      refine ⟨by rw [← hd.1]; exact hle', ?_⟩
      have ht := (hd.drop off).take n
      exact .agg _ _ ht.1 (fun x hx => hone x (List.mem_of_mem_drop (List.mem_of_mem_take hx))) ht.2
    ·cases h
 ·rename_i ha
  obtain ⟨v, h1, h2⟩ := hd.get h
  exact .inr ⟨v, ha, h1, h2⟩
 ·cases h
theorem load_sub {t : Nat} {d r : D} {off blk : Nat} {vs : List Value} (base : Nat) (h : subD c t d off = some r) (hd : RDs κ (flatD d) vs) (hone : ∀ x ∈ flatD d, x.one = true)
  (hc : ∀ j v, vs[j]? = some v → κ.w.cell? ⟨blk, base + j, none⟩ = some v) : ∃ v, (loadVar t ⟨blk, base + off, none⟩).run c.P κ.w = .ok v κ.w ∧ RD κ r v := by
 rcases subD_rd h hd hone with ⟨n, ha, hn, hle, hr⟩ | ⟨v, ha, hv, hr⟩
 ·refine ⟨_, ?_, hr⟩
  rw [run_loadVar_cells (c := c) (b := true) (cs := (vs.drop off).take n) ha hn (by simp; omega) nofun]
  ·simp
  ·intro j v hj
   rw [Nat.add_assoc]
   refine hc _ _ ?_
   rw [List.getElem?_take] at hj
   split at hj
   ·rwa [List.getElem?_drop] at hj
   ·cases hj
 ·refine ⟨v, ?_, hr⟩
  simp only [loadVar, Sem.run_bind, run_isAgg ha, Result.andThen_ok]
  simp [hc off v hv]
theorem ofBlock {blk : Nat} {cs : Array Value} {t : TypeId} {fz : Nat × Nat} (h : κ.w.heap[blk]? = some (.cells cs t fz)) (o : Nat) : κ.w.cell? ⟨blk, o, none⟩ = cs[o]? := by
 simp [World.cell?, h]
theorem load_does {t : Nat} {x : Option D} {v : Value} {d : Option D} {st' : St} (hi : Inv κ) (hx : ∀ y, x = some y → RD κ y v) (h : (runCls (loadOp c t x) κ.st).leads (d, st')) :
  Does c.P (do Pure.pure (.value (← Instr.loadAt t v))) κ d st' := by
 unfold loadOp at h
 split at h
 ·rename_i τ y
  cases ht : okTy c t τ with
  | false => rw [ht] at h; exact absurd h leads_bad
  | true =>
   rw [ht, cond_true, leads_vl] at h
   obtain ⟨rfl, rfl⟩ := h
   cases hx _ rfl with
   | rptr _ _ cs blk off hok hr hc =>
    exact Does.pure hi (by simp [Instr.loadAt, Instr.sureAddr, imm_load ht hr hc]) (.imm τ y cs hr)
 ·rename_i b off
  rw [leads_rd] at h
  obtain ⟨h, rfl⟩ := h
  split at h
  ·rename_i d0 hb
   split at h
   ·rename_i r hr
    cases h
    cases hx _ rfl with
    | ptr _ _ blk n d1 hd hp =>
     obtain ⟨blk', n', cs, T, g1, g2, g3, g4, g5⟩ := hi.blk b _ hb
     rw [hp] at g1
     cases g1
     obtain ⟨v, h1, h2⟩ := load_sub (c := c) (blk := blk) 0 hr g4 g5.1 (fun j v hj => by rw [ofBlock g2]; simpa using hj)
     rw [Nat.zero_add] at h1
     exact Does.pure hi (by simp [Instr.loadAt, Instr.sureAddr, h1]) h2
   ·exact h.elim
  ·exact h.elim
 ·rename_i b ver e idx off
  rw [leads_rd] at h
  obtain ⟨h, rfl⟩ := h
  split at h
  ·rename_i ver' e' xs hb
   cases he : decide (e' = e) with
   | false => rw [he] at h; exact h.elim
   | true =>
    rw [he, cond_true] at h
    have he' : e' = e := of_decide_eq_true he
    subst he'
    obtain ⟨⟨rfl, hlt⟩, h⟩ := h
    split at h
    ·rename_i r hr
     cases h
     cases hx _ rfl with
     | eptr _ _ _ _ _ blk o hold hp =>
      obtain ⟨n, p1, rfl⟩ := hp xs hb hlt
      obtain ⟨hsz, ⟨hnil, _⟩ | ⟨blk', n', cs, T, g1, g2, g3, g4, gr, f, g5⟩⟩ := hi.blk b _ hb
      ·subst hnil; cases hlt
      ·rw [p1] at g1
       cases g1
       have hg : xs.getD idx (dflt e') = xs[idx] := by simp [List.getD, List.getElem?_eq_getElem hlt]
       rw [hg] at hr
       obtain ⟨k1, k2⟩ := g5 idx hlt
       obtain ⟨v, h1, h2⟩ := load_sub (c := c) (blk := blk) (idx * e'.size) hr (flat_rds k1) (flat_one _ _) (fun j v hj => by rw [ofBlock g2]; exact k2 j v hj)
       exact Does.pure hi (by simp [Instr.loadAt, Instr.sureAddr, h1]) h2
    ·exact h.elim
  ·exact h.elim
 ·exact absurd h leads_bad
end
end Go.AM
namespace Go.AM
set_option linter.unusedSectionVars false
variable [Glob]
section
variable {c : Ctx} {κ : KS}
theorem fieldOf_spec {s f o n : Nat} (h : fieldOf c s f = some (o, n)) : ∃ fs fd, c.P.underlying s = some (.struct fs) ∧ fs[f]? = some fd ∧ sizeT c fd.type = some n ∧ n ≠ 0 ∧ fd.offset = o := by
 unfold fieldOf at h
 split at h
 ·rename_i fs hu
  split at h
  ·rename_i fd hf
   split at h
   ·rename_i m hm
    cases hb : Nat.beq m 0 with
    | true => rw [hb] at h; cases h
    | false =>
     rw [hb] at h
     cases h
     refine ⟨fs, fd, hu, hf, hm, ?_, rfl⟩
     intro e
     subst e
     cases hb
   ·cases h
  ·cases h
 ·cases h
theorem run_fieldAt {s f o n blk p : Nat} (h : fieldOf c s f = some (o, n)) (w : World) :
  (Instr.fieldAt s (.pointer (some ⟨blk, p, none⟩)) f).run c.P w = .ok (.pointer (some ⟨blk, p + o, none⟩)) w := by
 obtain ⟨fs, fd, h1, h2, h3, h4, h5⟩ := fieldOf_spec h
 simp [Instr.fieldAt, run_underlying h1, h2, Instr.sureAddr, fieldPlace, run_sizeOf h3, h4, addr_add, h5]
theorem fldAt_spec : ∀ (τ : Ty) (x : den τ) (n : Nat) {d : D} {o s : Nat} {cs : List Value}, fldAt τ x n = some (d, o, s) → Rc κ.w κ.ok τ x cs →
  ∃ (σ : Ty) (y : den σ) (c2 : List Value), d = .rptr σ y ∧ Rc κ.w κ.ok σ y c2 ∧ s = σ.size ∧ ∀ j v, c2[j]? = some v → cs[o + j]? = some v
 | .cons a b, x, 0, d, o, s, cs, h, hr => by
  simp only [fldAt] at h
  cases h
  obtain ⟨c1, c2, rfl, h1, h2⟩ := hr.cons_inv
  exact ⟨a, x.1, c1, rfl, h1, rfl, fun j v hj => by
   obtain ⟨hlt, _⟩ := List.getElem?_eq_some_iff.1 hj
   rw [Nat.zero_add, List.getElem?_append_left hlt]; exact hj⟩
 | .cons a b, x, n + 1, d, o, s, cs, h, hr => by
  simp only [fldAt] at h
  split at h
  ·rename_i d' o' s' h'
   cases h
   obtain ⟨c1, c2, rfl, h1, h2⟩ := hr.cons_inv
   obtain ⟨σ, y, c3, e1, e2, e3, e4⟩ := fldAt_spec b x.2 n h' h2
   refine ⟨σ, y, c3, e1, e2, e3, fun j v hj => ?_⟩
   have := h1.len
   rw [List.getElem?_append_right (by omega)]
   have e : a.size + o' + j - c1.length = o' + j := by omega
   rw [e]; exact e4 j v hj
  ·cases h
 | .expr, .mk k (a, n, m, ()) s l, i, d, o, z, cs, h, hr => by
  obtain ⟨c1, r1, rfl, h1, t1⟩ := hr.expr_inv.cons_inv
  obtain ⟨c2, r2, rfl, h2, t2⟩ := t1.cons_inv
  obtain ⟨c3, r3, rfl, h3, t3⟩ := t2.cons_inv
  obtain ⟨c4, r4, rfl, h4, t4⟩ := t3.cons_inv
  have e4 := t4.nil_inv
  subst e4
  have l2 : c2.length = 3 := h2.len
  obtain ⟨v1, rfl⟩ := h1.single rfl
  obtain ⟨v3, rfl⟩ := h3.single rfl
  obtain ⟨v4, rfl⟩ := h4.single rfl
  match i, h with
  | 0, h => simp only [fldAt] at h; cases h; exact ⟨i64, _, _, rfl, h1, rfl, fun j v hj => by match j, hj with | 0, hj => simpa using hj⟩
  | 1, h => 
   simp only [fldAt] at h; cases h
   refine ⟨ratTy, _, _, rfl, h2, rfl, fun j v hj => ?_⟩
   obtain ⟨hlt, _⟩ := List.getElem?_eq_some_iff.1 hj
   rw [show 1 + j = j + 1 by omega]
   simp only [List.cons_append, List.nil_append, List.getElem?_cons_succ]
   rw [List.getElem?_append_left hlt]; exact hj
  | 2, h =>
   simp only [fldAt] at h; cases h
   refine ⟨.str, _, _, rfl, h3, rfl, fun j v hj => ?_⟩
   match j, hj with
   | 0, hj =>
    simp only [List.cons_append, List.nil_append, Nat.add_zero, List.getElem?_cons_succ]
    rw [List.getElem?_append_right (by omega), l2]; simpa using hj
  | 3, h =>
   simp only [fldAt] at h; cases h
   refine ⟨.sl .expr, _, _, rfl, h4, rfl, fun j v hj => ?_⟩
   match j, hj with
   | 0, hj =>
    simp only [List.cons_append, List.nil_append, Nat.add_zero, List.getElem?_cons_succ]
    rw [List.getElem?_append_right (by omega), l2]; simpa using hj
  | n + 4, h => simp [fldAt] at h
 | .int _, _, _, _, _, _, _, h, _ | .bool, _, _, _, _, _, _, h, _ | .str, _, _, _, _, _, _, h, _ | .sl _, _, _, _, _, _, _, h, _ | .nil, _, _, _, _, _, _, h, _ => by simp [fldAt] at h
theorem fieldAddr_does {s f : Nat} {x : Option D} {v : Value} {d : Option D} {st' : St} (hi : Inv κ) (hx : ∀ y, x = some y → RD κ y v) (h : (runCls (fieldAddrOp c s f x) κ.st).leads (d, st')) :
  Does c.P (do Pure.pure (.value (← Instr.fieldAt s v f))) κ d st' := by
 unfold fieldAddrOp at h
 split at h
 ·exact absurd h leads_bad
 ·rename_i o n hf
  split at h
  ·rename_i τ y
   split at h
   ·rename_i d' o' n' hfl
    cases hb : Nat.beq o o' && Nat.beq n n' with
    | false => rw [hb] at h; exact absurd h leads_bad
    | true =>
     rw [hb, cond_true, leads_vl] at h
     obtain ⟨rfl, rfl⟩ := h
     simp only [Bool.and_eq_true] at hb
     have e1 : o = o' := Nat.eq_of_beq_eq_true hb.1
     subst e1
     cases hx _ rfl with
     | rptr _ _ cs blk off hok hr hc =>
      obtain ⟨σ, z, c2, rfl, g1, g2, g3⟩ := fldAt_spec τ y f hfl hr
      exact Does.pure hi (run_fieldAt hf κ.w) (.rptr σ z c2 blk (off + o) hok g1 fun j u hj => by rw [Nat.add_assoc]; exact hc _ _ (g3 j u hj))
   ·exact absurd h leads_bad
  ·rename_i b off
   rw [leads_vl] at h
   obtain ⟨rfl, rfl⟩ := h
   cases hx _ rfl with
   | ptr _ _ blk n d hd hp => exact Does.pure hi (run_fieldAt hf κ.w) (.ptr b (off + o) blk n d hd hp)
  ·rename_i b ver e idx off
   rw [leads_vl] at h
   obtain ⟨rfl, rfl⟩ := h
   cases hx _ rfl with
   | eptr _ _ _ _ _ blk p hold hp =>
    refine Does.pure hi (run_fieldAt hf κ.w) (.eptr b ver e idx (off + o) blk (p + o) hold fun xs h1 h2 => ?_)
    obtain ⟨n, h3, h4⟩ := hp xs h1 h2
    exact ⟨n, h3, by omega⟩
  ·exact absurd h leads_bad
theorem field_does {s f : Nat} {x : Option D} {v : Value} {d : Option D} {st' : St} (hi : Inv κ) (hx : ∀ y, x = some y → RD κ y v) (h : (runCls (fieldOp c s f x) κ.st).leads (d, st')) :
  Does c.P (do Pure.pure (.value (← Instr.field s v f))) κ d st' := by
 unfold fieldOp at h
 split at h
 ·rename_i fs hu
  split at h
  ·rename_i fd hf
   split at h
   ·rename_i y
    obtain ⟨r, hr, rfl, rfl⟩ := leads_oval h
    cases hag : y.isAggV with
    | false => rw [hag] at hr; cases hr
    | true =>
    rw [hag, cond_true] at hr
    have hy := hx _ rfl
    have ⟨vs, hv, hvs⟩ : ∃ vs, v = .agg vs ∧ RDs κ (flatD y) vs.toList := by
     have hfd := flatD_rds hy (by cases y <;> simp [D.isAggV, D.isTup] at hag ⊢)
     cases hy <;> simp [D.isAggV] at hag
     ·rename_i τ z cs hc
      exact ⟨cs.toArray, by simp [pk, hag], by simpa [pk, hag, Value.cells] using hfd⟩
     ·rename_i l vs hl ho hh
      exact ⟨vs.toArray, rfl, by simpa [Value.cells] using hfd⟩
    subst hv
    rcases subD_rd hr hvs (flatD_one hy) with ⟨n, ha, hn, hle, hrd⟩ | ⟨u, ha, hu', hrd⟩
    ·refine Does.pure hi ?_ hrd
     simp only [Instr.field, Sem.run_bind, run_underlying hu, Result.andThen_ok, hf, asAgg, Sem.run_pure, part, run_isAgg ha, if_true, run_sizeOf hn]
     congr 2
     apply Array.ext'
     simp [Array.toList_extract, List.extract]
    ·refine Does.pure hi ?_ hrd
     have : vs[fd.offset]? = some u := by simpa using hu'
     simp [Instr.field, run_underlying hu, hf, asAgg, part, run_isAgg ha, this]
   ·exact absurd h leads_bad
  ·exact absurd h leads_bad
 ·exact absurd h leads_bad
theorem elemT_spec {t e : Nat} (h : elemT c t = some e) : c.P.underlying t = some (.slice e) := by
 unfold elemT at h
 split at h
 ·rename_i e' hu; cases h; exact hu
 ·cases h
theorem asInt_rd {x : Option D} {k : IntKind} {n : Int} {v : Value} (h : asInt x = some (k, n)) (hx : ∀ y, x = some y → RD κ y v) : v = .int k n := by
 unfold asInt at h
 split at h
 ·cases h; exact (hx _ rfl).int_inv
 ·cases h
theorem asStr_rd {x : Option D} {s : Str} {v : Value} (h : asStr x = some s) (hx : ∀ y, x = some y → RD κ y v) : v = .string ⟨s.toArray⟩ := by
 unfold asStr at h
 split at h
 ·cases h; exact (hx _ rfl).str_inv
 ·cases h
theorem asBool_rd {x : Option D} {b : Bool} {v : Value} (h : asBool x = some b) (hx : ∀ y, x = some y → RD κ y v) : v = .bool b := by
 unfold asBool at h
 split at h
 ·cases h; exact (hx _ rfl).bool_inv
 ·cases h
theorem getD_lt {α : Type} {l : List α} {i : Nat} (h : i < l.length) (d : α) : List.getD l i d = l[i] := by simp [List.getD, List.getElem?_eq_getElem h]
theorem castTy_self {a : Ty} (x : den a) : (castTy x : Option (den a)) = some x := by simp [castTy]
theorem arrAt_rc {w : World} {ok : Nat → Prop} : ∀ (τ : Ty) (e : Ty) (n : Nat) (x : den τ) (cs : List Value) (i : Nat), arrTy τ = some (e, n) → Rc w ok τ x cs → i < n →
  ∃ c, Rc w ok e (arrAt e τ x i) c ∧ ∀ j v, c[j]? = some v → cs[i * e.size + j]? = some v
 | .cons a b, e, n, x, cs, i, ht, hr, hi => by
  obtain ⟨c1, c2, rfl, h1, h2⟩ := hr.cons_inv
  have key : ∀ m, (b = .nil ∧ m = 0 ∨ arrTy b = some (a, m)) → i < m + 1 → ∃ c, Rc w ok a (arrAt a (.cons a b) x i) c ∧ ∀ j v, c[j]? = some v → (c1 ++ c2)[i * a.size + j]? = some v := by
   intro m hm hi
   cases i with
   | zero =>
    refine ⟨c1, by simp only [arrAt, castTy_self]; exact h1, fun j v hj => ?_⟩
    rw [Nat.zero_mul, Nat.zero_add, List.getElem?_append_left (List.getElem?_eq_some_iff.1 hj).1]; exact hj
   | succ i =>
    rcases hm with ⟨rfl, rfl⟩ | hm
    ·omega
    ·obtain ⟨c, g1, g2⟩ := arrAt_rc b a m x.2 c2 i hm h2 (by omega)
     refine ⟨c, g1, fun j v hj => ?_⟩
     have hl := h1.len
     have := g2 j v hj
     rw [List.getElem?_append_right (by rw [hl, Nat.add_mul]; omega), hl]
     rw [← this]; congr 1
     rw [Nat.add_mul]; omega
  unfold arrTy at ht
  split at ht
  ·cases ht; exact key 0 (.inl ⟨rfl, rfl⟩) (by omega)
  ·split at ht
   ·rename_i e' m hb
    cases hd : decide (a = e') with
    | false => rw [hd] at ht; cases ht
    | true =>
     rw [hd, cond_true] at ht
     cases ht
     have := of_decide_eq_true hd
     subst this
     exact key m (.inr hb) hi
   ·cases ht
 | .int _, _, _, _, _, _, ht, _, _ => by cases ht
 | .bool, _, _, _, _, _, ht, _, _ => by cases ht
 | .str, _, _, _, _, _, ht, _, _ => by cases ht
 | .sl _, _, _, _, _, _, ht, _, _ => by cases ht
 | .nil, _, _, _, _, _, ht, _, _ => by cases ht
 | .expr, _, _, _, _, _, ht, _, _ => by cases ht
theorem arrT_spec {t n e : Nat} (h : arrT c t = some (n, e)) : c.P.underlying t = some (.array n e) := by
 unfold arrT at h
 split at h
 ·rename_i hu; cases h; exact hu
 ·cases h
theorem indexArr_does {t : Nat} {x i : Option D} {k : IntKind} {n : Int} {v u : Value} {d : Option D} {st' : St} (hi : Inv κ) (hx : ∀ y, x = some y → RD κ y v) (hy : ∀ y, i = some y → RD κ y u) (hin : asInt i = some (k, n))
  (h : (runCls (indexArr c t x n) κ.st).leads (d, st')) : Does c.P (do Pure.pure (.value (← Instr.indexAt t v u))) κ d st' := by
 have hu' := asInt_rd hin hy
 subst hu'
 unfold indexArr at h
 split at h
 ·rename_i m et τ y ha
  have hu := arrT_spec ha
  split at h
  ·rename_i e m' hty
   cases ht : okTy c et e && Nat.beq m m' with
   | false => rw [ht] at h; exact absurd h leads_bad
   | true =>
    rw [ht, cond_true, leads_obl] at h
    simp only [Bool.and_eq_true] at ht
    have := Nat.eq_of_beq_eq_true ht.2
    subst this
    obtain ⟨⟨h0, h1⟩, rfl, rfl⟩ := h
    obtain ⟨hs, _⟩ := okTy_spec ht.1
    cases hx _ rfl with
    | rptr _ _ cs blk off hok hrc hc =>
     obtain ⟨cc, g1, g2⟩ := arrAt_rc τ e m y cs n.toNat hty hrc (by omega)
     refine Does.pure hi ?_ (.rptr e _ cc blk (off + n.toNat * e.size) hok g1 fun j v hj => by rw [Nat.add_assoc]; exact hc _ v (g2 j v hj))
     simp [Instr.indexAt, asIntOf, run_underlying hu, h0, h1, run_sizeOf hs, addr_add, Instr.sureAddr]
  ·exact absurd h leads_bad
 ·exact absurd h leads_bad
theorem indexAddr_does {t : Nat} {x i : Option D} {v u : Value} {d : Option D} {st' : St} (hi : Inv κ) (hx : ∀ y, x = some y → RD κ y v) (hy : ∀ y, i = some y → RD κ y u)
  (h : (runCls (indexAddrOp c t x i) κ.st).leads (d, st')) : Does c.P (do Pure.pure (.value (← Instr.indexAt t v u))) κ d st' := by
 unfold indexAddrOp at h
 split at h
 ·rename_i k n het hin
  exact indexArr_does hi hx hy hin h
 ·rename_i et k n het hin
  have hu := elemT_spec het
  have hu' := asInt_rd hin hy
  subst hu'
  split at h
  ·rename_i e l
   cases ht : okTy c et e with
   | false => rw [ht] at h; exact absurd h leads_bad
   | true =>
    rw [ht, cond_true, leads_obl] at h
    obtain ⟨⟨h0, h1⟩, rfl, rfl⟩ := h
    obtain ⟨hs, _⟩ := okTy_spec ht
    have hlt : n.toNat < List.length l := by omega
    rcases ((hx _ rfl).imm_one rfl).sl_inv with ⟨rfl, _⟩ | ⟨blk, off, cap, f, he, hok, hcap, hh, hc⟩
    ·cases hlt
    ·cases he
     rw [getD_lt hlt]
     refine Does.pure hi ?_ (.rptr e _ (f n.toNat) blk (off + n.toNat * e.size) hok (hh _ hlt) fun j v hj => hc _ hlt j v hj)
     simp [Instr.indexAt, asIntOf, run_underlying hu, h0, h1, run_sizeOf hs, addr_add]
  ·rename_i e l ne
   cases ht : okTy c et e with
   | false => rw [ht] at h; exact absurd h leads_bad
   | true =>
    rw [ht, cond_true, leads_obl] at h
    obtain ⟨⟨h0, h1⟩, rfl, rfl⟩ := h
    obtain ⟨hs, _⟩ := okTy_spec ht
    have hlt : n.toNat < List.length l := by omega
    cases hx _ rfl with
    | tightNil => cases hlt
    | tight _ _ _ blk off f hne hok hh hc =>
     rw [getD_lt hlt]
     refine Does.pure hi ?_ (.rptr e _ (f n.toNat) blk (off + n.toNat * e.size) hok (hh _ hlt) fun j v hj => hc _ hlt j v hj)
     simp [Instr.indexAt, asIntOf, run_underlying hu, h0, h1, run_sizeOf hs, addr_add]
  ·rename_i b ver e off len
   cases ht : okTy c et e with
   | false => rw [ht] at h; exact absurd h leads_bad
   | true =>
    rw [ht, cond_true, leads_obl] at h
    obtain ⟨⟨h0, h1⟩, rfl, rfl⟩ := h
    obtain ⟨hs, _⟩ := okTy_spec ht
    cases hx _ rfl with
    | ms _ _ _ _ _ cap a hold hcap ha hsp hm =>
     cases a with
     | none => have := ha rfl; omega
     | some p =>
      have hp := hsp p rfl
      obtain ⟨blk, o, sp⟩ := p
      simp only at hp
      subst hp
      refine Does.pure hi (v := .pointer (some ⟨blk, o + n.toNat * e.size, none⟩)) ?_ (.eptr b ver e (off + n.toNat) 0 blk _ hold fun xs hb hlt => ?_)
      ·simp [Instr.indexAt, asIntOf, run_underlying hu, h0, h1, run_sizeOf hs, addr_add]
      ·obtain ⟨hle, ⟨_, _, hv, _⟩ | ⟨blk', n', o', cap', h3, h4, h5, h6, h7⟩⟩ := hm xs hb
       ·cases hv
       ·cases h4
        refine ⟨n', h3, ?_⟩
        rcases h7 with h7 | h7
        ·omega
        ·subst h7; rw [Nat.add_mul]; rfl
  ·exact absurd h leads_bad
 ·exact absurd h leads_bad
theorem bytes_get (s : Str) {i : Nat} (h : i < s.length) : (⟨s.toArray⟩ : ByteArray)[i]? = some s[i] := by
 have hsz : (⟨s.toArray⟩ : ByteArray).size = s.length := rfl
 rw [getElem?_pos _ _ (by rw [hsz]; exact h)]
 rfl
theorem index_does {t : Nat} {x i : Option D} {v u : Value} {d : Option D} {st' : St} (hi : Inv κ) (hx : ∀ y, x = some y → RD κ y v) (hy : ∀ y, i = some y → RD κ y u)
  (h : (runCls (indexOp c t x i) κ.st).leads (d, st')) : Does c.P (do Pure.pure (.value (← Instr.index t v u))) κ d st' := by
 unfold indexOp at h
 split at h
 ·rename_i k n s hin hs hu
  have hu' := asInt_rd hin hy
  subst hu'
  have hv := asStr_rd hs hx
  subst hv
  rw [leads_obl] at h
  obtain ⟨⟨h0, h1⟩, rfl, rfl⟩ := h
  have hlt : n.toNat < s.length := by omega
  rw [getD_lt hlt]
  exact Does.pure hi (by simp [Instr.index, asIntOf, run_underlying hu, h0, bytes_get s hlt]) RD.int
 ·exact absurd h leads_bad
def OptRD (κ : KS) : Option (Option D) → Option Value → Prop
 | none, none => True
 | some x, some v => ∀ y, x = some y → RD κ y v
 | _, _ => False
theorem bnd_spec {d n : Int} {x : Option (Option D)} {v : Option Value} (h : bnd d x = some n) (hx : OptRD κ x v) : (x = none ∧ v = none ∧ n = d) ∨ (x.isSome ∧ ∃ k, v = some (.int k n)) := by
 cases x with
 | none => cases v with
  | none => exact .inl ⟨rfl, rfl, by simpa [bnd] using h.symm⟩
  | some v => exact hx.elim
 | some x => cases v with
  | none => exact hx.elim
  | some v =>
   simp only [bnd] at h
   split at h
   ·rename_i k i hk; cases h; exact .inr ⟨rfl, k, by rw [asInt_rd hk hx]⟩
   ·cases h
end
end Go.AM
namespace Go.AM
set_option linter.unusedSectionVars false
variable [Glob]
section
variable {c : Ctx} {κ : KS}
theorem run_bounds {P : Program} {isS : Bool} {len cap : Nat} {lo hi mx : Option Value} {l h : Int} {m : Nat}
  (hl : (lo = none ∧ l = 0) ∨ ∃ k, lo = some (.int k l)) (hh : (hi = none ∧ mx = none ∧ h = len) ∨ ∃ k, hi = some (.int k h))
  (hm : (mx = none ∧ m = cap) ∨ ∃ k, mx = some (.int k m)) (h0 : 0 ≤ l) (h1 : l ≤ h) (h2 : h ≤ m) (h3 : m ≤ cap) (w : World) :
  (Instr.sliceBounds isS len cap lo hi mx).run P w = .ok (l.toNat, h.toNat, m) w := by
 have hh0 : (0 : Int) ≤ h := by omega
 have h1' : l ≤ (h.toNat : Int) := by omega
 rcases hl with ⟨rfl, rfl⟩ | ⟨k1, rfl⟩ <;> rcases hm with ⟨rfl, rfl⟩ | ⟨k3, rfl⟩ <;> rcases hh with ⟨rfl, hx, rfl⟩ | ⟨k2, rfl⟩ <;>
  first
   | (cases hx; done)
   | (simp [Instr.sliceBounds, run_sliceBound, *]; done)
   | (simp [Instr.sliceBounds, run_sliceBound, *]; rw [run_sliceBound _ _ _ _ _ h0 h1']; rfl)
theorem str_extract (s : Str) (l h : Int) : (⟨s.toArray⟩ : ByteArray).extract l.toNat h.toNat = ⟨(cutS l h s).toArray⟩ := by
 apply ByteArray.ext
 rw [ByteArray.data_extract]
 apply Array.ext'
 simp [cutS, List.extract, List.drop_take]
theorem bnd_lo {n : Int} {x : Option (Option D)} {v : Option Value} (h : bnd 0 x = some n) (hx : OptRD κ x v) : (v = none ∧ n = 0) ∨ ∃ k, v = some (.int k n) := by
 rcases bnd_spec h hx with ⟨_, h1, h2⟩ | ⟨_, h1⟩
 ·exact .inl ⟨h1, h2⟩
 ·exact .inr h1
theorem bnd_hi {d n : Int} {x : Option (Option D)} {v : Option Value} (h : bnd d x = some n) (hx : OptRD κ x v) : (v = none ∧ n = d) ∨ ∃ k, v = some (.int k n) := by
 rcases bnd_spec h hx with ⟨_, h1, h2⟩ | ⟨_, h1⟩
 ·exact .inl ⟨h1, h2⟩
 ·exact .inr h1
theorem opt_none {v : Option Value} (h : OptRD κ none v) : v = none := by cases v with | none => rfl | some _ => exact h.elim
theorem cut_cells {e : Ty} {l : List (den e)} {lo hi : Int} (h0 : 0 ≤ lo) (h1 : lo ≤ hi) (h2 : hi ≤ (l.length : Int)) :
  (cutL lo hi l).length = hi.toNat - lo.toNat ∧ ∀ i (hi' : i < (cutL lo hi l).length), ∃ h : lo.toNat + i < l.length, (cutL lo hi l)[i] = l[lo.toNat + i] := by
 have hlen : (cutL lo hi l).length = hi.toNat - lo.toNat := by simp [cutL]; omega
 refine ⟨hlen, fun i hi' => ⟨by omega, ?_⟩⟩
 simp [cutL, List.getElem_drop, List.getElem_take]
theorem sl_cut {e : Ty} {l : List (den e)} {lo hi : Int} {blk off cap m : Nat} {f : Nat → List Value} (hok : κ.ok blk)
  (hh : ∀ i (hi : i < l.length), Rc κ.w κ.ok e l[i] (f i)) (hc : ∀ i, i < l.length → ∀ j v, (f i)[j]? = some v → κ.w.cell? ⟨blk, off + i * e.size + j, none⟩ = some v)
  (h0 : 0 ≤ lo) (h1 : lo ≤ hi) (h2 : hi ≤ (l.length : Int)) (hm : hi ≤ (m : Int)) (hcap : m ≤ cap) :
  (∀ i (hi' : i < (cutL lo hi l).length), Rc κ.w κ.ok e (cutL lo hi l)[i] (f (lo.toNat + i))) ∧
  (∀ i, i < (cutL lo hi l).length → ∀ j v, (f (lo.toNat + i))[j]? = some v →
   κ.w.cell? ⟨blk, (if m = lo.toNat then off else off + lo.toNat * e.size) + i * e.size + j, none⟩ = some v) ∧ (cutL lo hi l).length ≤ m - lo.toNat := by
 obtain ⟨hl, hg⟩ := cut_cells h0 h1 h2
 refine ⟨fun i hi' => ?_, fun i hi' j v hj => ?_, by omega⟩
 ·obtain ⟨h3, h4⟩ := hg i hi'
  rw [h4]; exact hh _ h3
 ·obtain ⟨h3, h4⟩ := hg i hi'
  have := hc _ h3 j v hj
  rw [if_neg (by omega)]
  rw [Nat.add_mul, ← Nat.add_assoc] at this
  exact this
theorem slice_does {t : Nat} {x : Option D} {lo hi mx : Option (Option D)} {v : Value} {vl vh vm : Option Value} {d : Option D} {st' : St} (hI : Inv κ) (hx : ∀ y, x = some y → RD κ y v)
  (hlo : OptRD κ lo vl) (hhi : OptRD κ hi vh) (hmx : OptRD κ mx vm)
  (h : (runCls (sliceOp c t x lo hi mx) κ.st).leads (d, st')) : Does c.P (do Pure.pure (.value (← Instr.sliceAt t v vl vh vm))) κ d st' := by
 unfold sliceOp at h
 split at h
 ·rename_i s
  obtain ⟨s, rfl⟩ : ∃ s' : Str, s = s' := ⟨s, rfl⟩
  split at h
  ·rename_i l hh hu hl hh'
   rw [leads_obl] at h
   obtain ⟨⟨h0, h1, h2⟩, rfl, rfl⟩ := h
   have hv := (hx _ rfl).str_inv
   subst hv
   have e1 := opt_none hmx
   subst e1
   refine Does.pure hI ?_ RD.str
   have hsz : (⟨s.toArray⟩ : ByteArray).size = s.length := rfl
   have hb := run_bounds (P := c.P) (isS := false) (len := s.length) (cap := s.length) (mx := none) (m := s.length) (bnd_lo hl hlo)
    (orMap (bnd_hi hh' hhi) (fun h => ⟨h.1, rfl, h.2⟩) id) (.inl ⟨rfl, rfl⟩) h0 h1 h2 (Nat.le_refl _) κ.w
   simp only [Instr.sliceAt, Sem.run_bind, run_underlying hu, Result.andThen_ok, Instr.slice, Option.isSome_none, Bool.false_eq_true, if_false, hsz, hb, str_extract]
   rfl
  ·exact absurd h leads_bad
 ·rename_i e s
  split at h
  ·rename_i et l hh het hl hh'
   have hu := elemT_spec het
   cases ht : okTy c et e with
   | false => rw [ht] at h; exact absurd h leads_bad
   | true =>
    obtain ⟨hs, _⟩ := okTy_spec ht
    rw [ht, cond_true] at h
    split at h
    ·rw [leads_obl] at h
     obtain ⟨⟨h0, h1, h2⟩, rfl, rfl⟩ := h
     have e1 := opt_none hmx
     subst e1
     have hlo' := bnd_lo hl hlo
     have hhi' : (vh = none ∧ (none : Option Value) = none ∧ hh = (s.length : Int)) ∨ ∃ k, vh = some (.int k hh) := orMap (bnd_hi hh' hhi) (fun h => ⟨h.1, rfl, h.2⟩) id
     rcases ((hx _ rfl).imm_one rfl).sl_inv with ⟨rfl, a0, he⟩ | ⟨blk, off, cap, f, he, hok, hcap, hc1, hc2⟩
     ·cases he
      simp only [List.length_nil, Int.cast_ofNat_Int] at h2
      have hb := run_bounds (P := c.P) (isS := true) (len := 0) (cap := 0) (mx := none) (m := 0) hlo' hhi' (.inl ⟨rfl, rfl⟩) h0 h1 h2 (Nat.le_refl _) κ.w
      have e0 : l = 0 := by omega
      have e2 : hh = 0 := by omega
      subst e0 e2
      refine Does.pure hI (v := .slice a0 0 0) ?_ (.imm1 rfl (.slNil e a0))
      simp [Instr.sliceAt, run_underlying hu, Instr.slice, hb, run_sizeOf hs]
     ·cases he
      obtain ⟨k1, k2, k3⟩ := sl_cut (lo := l) (hi := hh) (cap := cap) (m := cap) hok hc1 hc2 h0 h1 h2 (by omega) (Nat.le_refl _)
      have hb := run_bounds (P := c.P) (isS := true) (len := s.length) (cap := cap) (mx := none) (m := cap) hlo' hhi' (.inl ⟨rfl, rfl⟩) h0 h1 (by omega) (Nat.le_refl _) κ.w
      have hlen := (cut_cells h0 h1 h2).1
      refine Does.pure hI ?_ (.imm1 rfl (.sl e (cutL l hh s) blk _ (cap - l.toNat) _ hok k3 k1 k2))
      simp only [Instr.sliceAt, Sem.run_bind, run_underlying hu, Result.andThen_ok, Instr.slice, hb, run_sizeOf hs, Sem.run_pure, hlen]
      congr 3
      split <;> simp [addr_add]
    ·split at h
     ·rename_i mx m km mi hm'
      cases hhs : hi.isSome with
      | false => rw [hhs] at h; exact absurd h leads_bad
      | true =>
      rw [hhs, cond_true, leads_obl] at h
      obtain ⟨⟨h0, h1, rfl, h2⟩, rfl, rfl⟩ := h
      obtain ⟨vm, rfl⟩ : ∃ u, vm = some u := by cases vm with | none => exact hmx.elim | some u => exact ⟨u, rfl⟩
      have hvm := asInt_rd hm' hmx
      subst hvm
      have hlo' := bnd_lo hl hlo
      have hhi' : (vh = none ∧ (some (Value.int km hh) : Option Value) = none ∧ hh = (s.length : Int)) ∨ ∃ k, vh = some (.int k hh) := by
       rcases bnd_spec hh' hhi with ⟨g1, _⟩ | ⟨_, g⟩
       ·rw [g1] at hhs; cases hhs
       ·exact .inr g
      have em : ((hh.toNat : Nat) : Int) = hh := by omega
      rcases ((hx _ rfl).imm_one rfl).sl_inv with ⟨rfl, a0, he⟩ | ⟨blk, off, cap, f, he, hok, hcap, hc1, hc2⟩
      ·cases he
       simp only [List.length_nil, Int.cast_ofNat_Int] at h2
       have hb := run_bounds (P := c.P) (isS := true) (len := 0) (cap := 0) (mx := some (.int km hh)) (m := hh.toNat) hlo' hhi' (.inr ⟨km, by rw [em]⟩) h0 h1 (by omega) (by omega) κ.w
       have e0 : l = 0 := by omega
       have e2 : hh = 0 := by omega
       subst e0 e2
       refine Does.pure hI (v := .slice a0 0 0) ?_ (.tightNil e a0)
       simp [Instr.sliceAt, run_underlying hu, Instr.slice, hb, run_sizeOf hs]
      ·cases he
       obtain ⟨k1, k2, k3⟩ := sl_cut (lo := l) (hi := hh) (cap := cap) (m := hh.toNat) hok hc1 hc2 h0 h1 h2 (by omega) (by omega)
       have hb := run_bounds (P := c.P) (isS := true) (len := s.length) (cap := cap) (mx := some (.int km hh)) (m := hh.toNat) hlo' hhi' (.inr ⟨km, by rw [em]⟩) h0 h1 (by omega) (by omega) κ.w
       have hlen := (cut_cells h0 h1 h2).1
       refine Does.pure hI ?_ (.tight e (cutL l hh s) false blk _ _ nofun hok k1 k2)
       simp only [Instr.sliceAt, Sem.run_bind, run_underlying hu, Result.andThen_ok, Instr.slice, hb, run_sizeOf hs, Sem.run_pure, hlen]
       congr 3
       split <;> simp [addr_add]
     ·exact absurd h leads_bad
  ·exact absurd h leads_bad
 ·rename_i e s ne
  split at h
  ·rename_i et l hh het hl hh'
   have hu := elemT_spec het
   cases ht : okTy c et e with
   | false => rw [ht] at h; exact absurd h leads_bad
   | true =>
    obtain ⟨hs, _⟩ := okTy_spec ht
    rw [ht, cond_true, leads_obl] at h
    obtain ⟨⟨h0, h1, h2⟩, rfl, rfl⟩ := h
    have e1 := opt_none hmx
    subst e1
    have hlo' := bnd_lo hl hlo
    have hhi' : (vh = none ∧ (none : Option Value) = none ∧ hh = (s.length : Int)) ∨ ∃ k, vh = some (.int k hh) := orMap (bnd_hi hh' hhi) (fun h => ⟨h.1, rfl, h.2⟩) id
    cases hx _ rfl with
    | tightNil _ a0 =>
     simp only [List.length_nil, Int.cast_ofNat_Int] at h2
     have hb := run_bounds (P := c.P) (isS := true) (len := 0) (cap := 0) (mx := none) (m := 0) hlo' hhi' (.inl ⟨rfl, rfl⟩) h0 h1 h2 (Nat.le_refl _) κ.w
     have e0 : l = 0 := by omega
     have e2 : hh = 0 := by omega
     subst e0 e2
     refine Does.pure hI (v := .slice a0 0 0) ?_ (.imm1 rfl (.slNil e a0))
     simp [Instr.sliceAt, run_underlying hu, Instr.slice, hb, run_sizeOf hs]
    | tight _ _ _ blk off f hne hok hc1 hc2 =>
     obtain ⟨k1, k2, k3⟩ := sl_cut (lo := l) (hi := hh) (cap := s.length) (m := s.length) hok hc1 hc2 h0 h1 h2 (by omega) (Nat.le_refl _)
     have hb := run_bounds (P := c.P) (isS := true) (len := s.length) (cap := s.length) (mx := none) (m := s.length) hlo' hhi' (.inl ⟨rfl, rfl⟩) h0 h1 (by omega) (Nat.le_refl _) κ.w
     have hlen := (cut_cells h0 h1 h2).1
     refine Does.pure hI ?_ (.imm1 rfl (.sl e (cutL l hh s) blk _ (s.length - l.toNat) _ hok k3 k1 k2))
     simp only [Instr.sliceAt, Sem.run_bind, run_underlying hu, Result.andThen_ok, Instr.slice, hb, run_sizeOf hs, Sem.run_pure, hlen]
     congr 3
     split <;> simp [addr_add]
  ·exact absurd h leads_bad
 ·rename_i b ver e off len
  split at h
  ·rename_i et l hh het hl hh'
   have hu := elemT_spec het
   cases ht : okTy c et e with
   | false => rw [ht] at h; exact absurd h leads_bad
   | true =>
    obtain ⟨hs, _⟩ := okTy_spec ht
    rw [ht, cond_true, leads_obl] at h
    obtain ⟨⟨h0, h1, h2⟩, rfl, rfl⟩ := h
    have e1 := opt_none hmx
    subst e1
    have hlo' := bnd_lo hl hlo
    have hhi' : (vh = none ∧ (none : Option Value) = none ∧ hh = (len : Int)) ∨ ∃ k, vh = some (.int k hh) := orMap (bnd_hi hh' hhi) (fun h => ⟨h.1, rfl, h.2⟩) id
    cases hx _ rfl with
    | ms _ _ _ _ _ cap a hold hcap ha hsp hm =>
     have hb := run_bounds (P := c.P) (isS := true) (len := len) (cap := cap) (mx := none) (m := cap) hlo' hhi' (.inl ⟨rfl, rfl⟩) h0 h1 (by omega) (Nat.le_refl _) κ.w
     refine Does.pure hI (v := .slice (if cap = l.toNat then a else a.map (·.add (l.toNat * e.size))) (hh.toNat - l.toNat) (cap - l.toNat)) ?_ (.ms b ver e _ _ _ _ hold (by omega) ?_ ?_ ?_)
     ·simp only [Instr.sliceAt, Sem.run_bind, run_underlying hu, Result.andThen_ok, Instr.slice, hb, run_sizeOf hs, Sem.run_pure]
     ·intro hn
      split at hn
      ·have := ha hn; omega
      ·cases a with | none => have := ha rfl; omega | some p => cases hn
     ·intro p hp
      split at hp
      ·exact hsp p hp
      ·cases a with
       | none => cases hp
       | some q =>
        obtain ⟨q1, q2, q3⟩ := q
        have := hsp _ rfl
        simp only at this
        subst this
        simp only [Option.map_some, addr_add, Option.some.injEq] at hp
        subst hp; rfl
     ·intro xs hxs
      obtain ⟨hle, ⟨rfl, rfl, hv, hp⟩ | ⟨blk', n', o', cap', h3, h4, h5, h6, h7⟩⟩ := hm xs hxs
      ·cases hv
       have e0 : l = 0 := by omega
       have e2 : hh = 0 := by omega
       subst e0 e2
       exact ⟨by simp, .inl ⟨rfl, rfl, rfl, hp⟩⟩
      ·cases h4
       refine ⟨by omega, .inr ?_⟩
       by_cases hcl : cap = l.toNat
       ·refine ⟨blk', n', o', 0, h3, ?_, by omega, ?_, .inl rfl⟩
        ·simp [hcl]
        ·have : (off + l.toNat + 0) = off + cap := by omega
         rw [this]; exact h6
       ·refine ⟨blk', n', o' + l.toNat * e.size, cap - l.toNat, h3, ?_, by omega, ?_, .inr ?_⟩
        ·simp [hcl, addr_add]
        ·have : off + l.toNat + (cap - l.toNat) = off + cap := by omega
         rw [this]; exact h6
        ·rcases h7 with h7 | h7
         ·omega
         ·rw [h7, Nat.add_mul]
  ·exact absurd h leads_bad
 ·exact absurd h leads_bad
end
end Go.AM
namespace Go.AM
set_option linter.unusedSectionVars false
variable [Glob]
section
variable {c : Ctx} {κ : KS}
theorem eqGuard_int (op : BinOp) (t : Nat) (x y : Operand) (k k' : IntKind) (a b : Int) (P : Program) (w : World) : (eqGuard op t x y (.int k a) (.int k' b)).run P w = .ok () w := by
 unfold eqGuard; split <;> simp
theorem eqGuard_str (op : BinOp) (t : Nat) (x y : Operand) (a b : ByteArray) (P : Program) (w : World) : (eqGuard op t x y (.string a) (.string b)).run P w = .ok () w := by
 unfold eqGuard; split <;> simp
theorem eqGuard_bool (op : BinOp) (t : Nat) (x y : Operand) (a b : Bool) (P : Program) (w : World) : (eqGuard op t x y (.bool a) (.bool b)).run P w = .ok () w := by
 unfold eqGuard; split <;> simp
theorem leads_ib {k : IntKind} {n : Int} {st st' : St} {d : Option D} : (runCls (ib k n) st).leads (d, st') ↔ d = some (.imm (.int k) n) ∧ st' = st := leads_vl
theorem leads_bb {b : Bool} {st st' : St} {d : Option D} : (runCls (bb b) st).leads (d, st') ↔ d = some (.imm .bool b) ∧ st' = st := leads_vl
theorem binInt_run {op : BinOp} {k : IntKind} {a b : Int} {d : Option D} {st st' : St} {t : Nat} (h : (runCls (binInt op k a b) st).leads (d, st')) (hs : isShift op = false) :
  ∃ y v, d = some y ∧ st' = st ∧ (binOp op t (.int k a) (.int k b)).run c.P κ.w = .ok v κ.w ∧ RD κ y v := by
 cases op <;> simp only [binInt] at h <;> try (exact absurd h leads_bad)
 all_goals first
  | (rw [leads_ib] at h; obtain ⟨rfl, rfl⟩ := h; exact ⟨_, _, rfl, rfl, by simp [binOp, Op.intArith, Op.intBits, bitsOp], RD.int⟩)
  | (rw [leads_bb] at h; obtain ⟨rfl, rfl⟩ := h; exact ⟨_, _, rfl, rfl, by simp [binOp, Op.intCmp], RD.bool⟩)
  | (rw [leads_obl] at h; obtain ⟨hb, rfl, rfl⟩ := h; exact ⟨_, _, rfl, rfl, by simp [binOp, Op.intDiv, hb], RD.int⟩)
theorem binStr_run {op : BinOp} {a b : Str} {d : Option D} {st st' : St} {t : Nat} (h : (runCls (binStr op a b) st).leads (d, st')) (hs : isShift op = false) :
  ∃ y v, d = some y ∧ st' = st ∧ (binOp op t (.string ⟨a.toArray⟩) (.string ⟨b.toArray⟩)).run c.P κ.w = .ok v κ.w ∧ RD κ y v := by
 have hsz : ∀ s : Str, (⟨s.toArray⟩ : ByteArray).size = s.length := fun _ => rfl
 cases op <;> simp only [binStr] at h <;> try (exact absurd h leads_bad)
 case add =>
  rw [leads_obl] at h; obtain ⟨hb, rfl, rfl⟩ := h
  refine ⟨_, _, rfl, rfl, ?_, RD.str⟩
  have e : (⟨a.toArray⟩ ++ ⟨b.toArray⟩ : ByteArray) = ⟨(cat a b).toArray⟩ := by
   apply ByteArray.ext; rw [ByteArray.data_append]; simp [cat]
  have hn : ¬ (IntKind.i64.max < ((a.length + b.length : Nat) : Int)) := by
   have : IntKind.i64.max = 9223372036854775807 := by decide
   omega
  simp only [binOp, Op.stringOp, hsz, gt_iff_lt, hn, if_false, e]
  rfl
 all_goals (rw [leads_bb] at h; obtain ⟨rfl, rfl⟩ := h; exact ⟨_, _, rfl, rfl, by simp [binOp, Op.stringOp, strEq, strLt], RD.bool⟩)
theorem equal_bool {P : Program} {t : Nat} (hu : P.underlying t = some .bool) (a b : Bool) (w : World) : (Op.equal t (.bool a) (.bool b)).run P w = .ok (a == b) w := by
 unfold Op.equal
 show (Op.equalIn (9999 + 1) t _ _).run P w = _
 rw [Op.equalIn]
 simp only [Sem.run_bind, run_underlying hu, Result.andThen_ok, Sem.run_pure]
theorem bin_does {op : BinOp} {t : Nat} {px py : Operand} {x y : Option D} {v u : Value} {d : Option D} {st' : St} (hI : Inv κ) (hx : ∀ z, x = some z → RD κ z v) (hy : ∀ z, y = some z → RD κ z u)
  (h : (runCls (binOpA c op t x y) κ.st).leads (d, st')) : Does c.P (do Pure.pure (.value (← (do eqGuard op t px py v u; binOp op t v u)))) κ d st' := by
 unfold binOpA at h
 split at h
 ·rename_i k a k' b hk hk'
  have := asInt_rd hk hx
  subst this
  have := asInt_rd hk' hy
  subst this
  split at h
  ·rw [leads_obl] at h
   obtain ⟨hb, rfl, rfl⟩ := h
   refine Does.pure hI ?_ RD.int
   simp only [Sem.run_bind, eqGuard_int, Result.andThen_ok, binOp, Op.shift, if_neg (show ¬ b < 0 by omega)]
   rfl
  ·rw [leads_obl] at h
   obtain ⟨hb, rfl, rfl⟩ := h
   refine Does.pure hI ?_ RD.int
   simp only [Sem.run_bind, eqGuard_int, Result.andThen_ok, binOp, Op.shift, if_neg (show ¬ b < 0 by omega)]
   rfl
  ·rename_i n1 n2
   cases he : decide (k = k') with
   | false => rw [he] at h; exact absurd h leads_bad
   | true =>
    have he' := of_decide_eq_true he
    subst he'
    rw [he, cond_true] at h
    obtain ⟨y', v', rfl, rfl, h1, h2⟩ := binInt_run (c := c) (κ := κ) (t := t) h (by cases op <;> first | rfl | (exact absurd rfl n1) | (exact absurd rfl n2))
    exact Does.pure hI (by simp only [Sem.run_bind, eqGuard_int, Result.andThen_ok, h1]) h2
 ·split at h
  ·rename_i a b ha hb
   have := asStr_rd ha hx
   subst this
   have := asStr_rd hb hy
   subst this
   cases hs : isShift op with
   | true => rw [hs] at h; exact absurd h leads_bad
   | false =>
    rw [hs, cond_false] at h
    obtain ⟨y', v', rfl, rfl, h1, h2⟩ := binStr_run (c := c) (κ := κ) (t := t) h hs
    exact Does.pure hI (by simp only [Sem.run_bind, eqGuard_str, Result.andThen_ok, h1]) h2
  ·split at h
   ·rename_i a b hu ha hb
    have := asBool_rd ha hx
    subst this
    have := asBool_rd hb hy
    subst this
    cases op <;> simp only [eqBool] at h <;> try (exact absurd h leads_bad)
    all_goals
     rw [leads_bb] at h; obtain ⟨rfl, rfl⟩ := h
     refine Does.pure hI ?_ RD.bool
     simp only [Sem.run_bind, eqGuard_bool, Result.andThen_ok, binOp, equal_bool hu, Sem.run_pure]
   ·exact absurd h leads_bad
theorem un_does {op : UnOp} {x : Option D} {v : Value} {d : Option D} {st' : St} (hI : Inv κ) (hx : ∀ z, x = some z → RD κ z v)
  (h : (runCls (unOpA op x) κ.st).leads (d, st')) : Does c.P (do Pure.pure (.value (← Op.unary op v))) κ d st' := by
 unfold unOpA at h
 split at h
 ·split at h
  ·rename_i k n hk
   have := asInt_rd hk hx
   subst this
   rw [leads_ib] at h
   obtain ⟨rfl, rfl⟩ := h
   exact Does.pure hI (by simp [Op.unary, Op.intArith]) RD.int
  ·exact absurd h leads_bad
 ·split at h
  ·rename_i b hb
   have := asBool_rd hb hx
   subst this
   rw [leads_bb] at h
   obtain ⟨rfl, rfl⟩ := h
   exact Does.pure hI (by simp [Op.unary]) RD.bool
  ·exact absurd h leads_bad
 ·split at h
  ·rename_i k n hk
   have := asInt_rd hk hx
   subst this
   rw [leads_ib] at h
   obtain ⟨rfl, rfl⟩ := h
   exact Does.pure hI (by simp [Op.unary, Op.intBits, bitsOp]) RD.int
  ·exact absurd h leads_bad
 ·exact absurd h leads_bad
theorem len_run {t ty : Nat} {ts : Array Nat} {x : Option D} {v : Value} {vs : Array Value} {d : Option D} {st' : St} (hI : Inv κ) (hx : ∀ z, x = some z → RD κ z v) (ht : ts[0]? = some t) (hv : vs[0]? = some v)
  (h : (runCls (lenOp c t x) κ.st).leads (d, st')) : Does c.P (do Pure.pure (.value (← Builtin.len_ ts ty vs))) κ d st' := by
 unfold lenOp at h
 split at h
 ·rename_i e hu
  have key : ∀ (n : Nat) (a : Option Addr) (cap : Nat), v = .slice a n cap → d = some (.imm (.int .i64) (n : Int)) → st' = κ.st → Does c.P (do Pure.pure (.value (← Builtin.len_ ts ty vs))) κ d st' := by
   rintro n a cap rfl rfl rfl
   exact Does.pure hI (by simp [Builtin.len_, ht, hv, run_underlying hu, goInt]) RD.int
  split at h
  ·rename_i e' l
   rw [leads_ib] at h
   rcases ((hx _ rfl).imm_one rfl).sl_inv with ⟨rfl, a0, he⟩ | ⟨blk, off, cap, f, he, _⟩
   ·cases he; exact key 0 a0 0 rfl h.1 h.2
   ·cases he; exact key _ _ _ rfl h.1 h.2
  ·rename_i e' l ne
   rw [leads_ib] at h
   cases hx _ rfl with
   | tightNil _ a0 => exact key 0 a0 0 rfl h.1 h.2
   | tight => exact key _ _ _ rfl h.1 h.2
  ·rw [leads_ib] at h
   cases hx _ rfl
   exact key 0 none 0 rfl h.1 h.2
  ·rw [leads_ib] at h
   cases hx _ rfl
   exact key _ _ _ rfl h.1 h.2
  ·exact absurd h leads_bad
 ·rename_i hu
  split at h
  ·rename_i s hs
   have := asStr_rd hs hx
   subst this
   rw [leads_ib] at h
   obtain ⟨rfl, rfl⟩ := h
   have hsz : (⟨s.toArray⟩ : ByteArray).size = s.length := rfl
   exact Does.pure hI (by simp only [Builtin.len_, ht, hv, Sem.run_bind, run_underlying hu, Result.andThen_ok, goInt, hsz, Sem.run_pure]) RD.int
  ·exact absurd h leads_bad
 ·exact absurd h leads_bad
theorem minmax_run {f : Int → Int → Int} {g : Value → Value → Sem Value} {P : Program} (hg : ∀ k k' a b, (g (.int k a) (.int k' b)).run P κ.w = .ok (.int k (f a b)) κ.w) {x y : Option D} {v u : Value} {d : Option D} {st' : St}
  (hI : Inv κ) (hx : ∀ z, x = some z → RD κ z v) (hy : ∀ z, y = some z → RD κ z u) (h : (runCls (minmax f [x, y]) κ.st).leads (d, st')) :
  ∃ r, (g v u).run P κ.w = .ok r κ.w ∧ st' = κ.st ∧ ∀ d', d = some d' → RD κ d' r := by
 unfold minmax at h
 simp only at h
 split at h
 ·rename_i k a k' b hk hk'
  have := asInt_rd hk hx
  subst this
  have := asInt_rd hk' hy
  subst this
  cases he : decide (k = k') with
  | false => rw [he] at h; exact absurd h leads_bad
  | true =>
   rw [he, cond_true, leads_ib] at h
   obtain ⟨rfl, rfl⟩ := h
   exact ⟨_, hg k k' a b, rfl, fun d' he => by cases he; exact RD.int⟩
 ·exact absurd h leads_bad
theorem extract_does {x : Option D} {i : Nat} {v : Value} {d : Option D} {st' : St} (hI : Inv κ) (hx : ∀ z, x = some z → RD κ z v)
  (h : (runCls (extractOp x i) κ.st).leads (d, st')) : Does c.P (do Pure.pure (.value (← Instr.extract v i))) κ d st' := by
 unfold extractOp at h
 split at h
 ·rename_i vs
  obtain ⟨y, hy, rfl, rfl⟩ := leads_oval h
  cases hx _ rfl with
  | tup _ us hl hh =>
   obtain ⟨u, h1, h2⟩ := RDs.get (⟨hl, hh⟩ : RDs κ vs us) hy
   exact Does.pure hI (by simp [Instr.extract, h1]) h2
 ·exact absurd h leads_bad
theorem allSome_spec : ∀ {l : List (Option D)} {ds : List D}, allSome l = some ds → l = ds.map some
 | [], ds, h => by simp [allSome] at h; subst h; rfl
 | some d :: r, ds, h => by
  simp only [allSome] at h
  split at h
  ·rename_i l hl; cases h; simp [allSome_spec hl]
  ·cases h
 | none :: r, ds, h => by simp [allSome] at h
theorem rds_of_opts {l : List (Option D)} {ds : List D} {vs : List Value} (h : allSome l = some ds) (hl : l.length = vs.length)
  (hr : ∀ (i : Nat) (d : D) (v : Value), l[i]? = some (some d) → vs[i]? = some v → RD κ d v) : RDs κ ds vs := by
 have := allSome_spec h
 subst this
 refine ⟨by simpa using hl, fun i h1 h2 => hr i _ _ ?_ (List.getElem?_eq_getElem h2)⟩
 simp [List.getElem?_eq_getElem h1]
end
end Go.AM
namespace Go.AM
namespace T
variable {α β γ : Type}
theorem leads_fun {t : T α} {x y : α} (h : t.leads x) (k : t.leads y) : x = y := by
 induction t with
 | ret a => exact h.symm.trans k
 | ite b p q ip iq =>
  rcases h with ⟨h1, h⟩ | ⟨h1, h⟩ <;> rcases k with ⟨k1, k⟩ | ⟨k1, k⟩
  ·exact ip h k
  ·rw [h1] at k1; cases k1
  ·rw [h1] at k1; cases k1
  ·exact iq h k
 | obl p t ih => exact ih h.2 k.2
 | fail => exact h.elim
theorem leads_bind' {t : T α} {f : α → T β} {x : β} : (t.bind f).leads x ↔ ∃ a, t.leads a ∧ (f a).leads x := by
 induction t with
 | ret a => exact ⟨fun h => ⟨a, rfl, h⟩, fun ⟨b, h, k⟩ => by cases h; exact k⟩
 | ite b p q ip iq =>
  constructor
  ·rintro (⟨h1, h⟩ | ⟨h1, h⟩)
   ·obtain ⟨a, k1, k2⟩ := ip.1 h; exact ⟨a, .inl ⟨h1, k1⟩, k2⟩
   ·obtain ⟨a, k1, k2⟩ := iq.1 h; exact ⟨a, .inr ⟨h1, k1⟩, k2⟩
  ·rintro ⟨a, ⟨h1, k1⟩ | ⟨h1, k1⟩, k2⟩
   ·exact .inl ⟨h1, ip.2 ⟨a, k1, k2⟩⟩
   ·exact .inr ⟨h1, iq.2 ⟨a, k1, k2⟩⟩
 | obl p t ih =>
  constructor
  ·rintro ⟨h1, h⟩; obtain ⟨a, k1, k2⟩ := ih.1 h; exact ⟨a, ⟨h1, k1⟩, k2⟩
  ·rintro ⟨a, ⟨h1, k1⟩, k2⟩; exact ⟨h1, ih.2 ⟨a, k1, k2⟩⟩
 | fail => exact ⟨fun h => h.elim, fun ⟨_, h, _⟩ => h.elim⟩
open Classical in
noncomputable def run : T α → Option α
 | ret a => some a
 | ite b t e => bif b then t.run else e.run
 | obl p t => if p then t.run else none
 | fail => none
@[simp] theorem run_ret (a : α) : (ret a).run = some a := rfl
@[simp] theorem run_fail : (fail : T α).run = none := rfl
theorem run_ite (b : Bool) (t e : T α) : (ite b t e).run = if b = true then t.run else e.run := by cases b <;> rfl
@[simp] theorem run_ite_true (t e : T α) : (ite true t e).run = t.run := rfl
@[simp] theorem run_ite_false (t e : T α) : (ite false t e).run = e.run := rfl
theorem run_obl {p : Prop} (h : p) (t : T α) : (obl p t).run = t.run := by simp only [run, if_pos h]
theorem run_ite_t {b : Bool} (h : b = true) (t e : T α) : (ite b t e).run = t.run := by rw [h]; rfl
theorem run_ite_f {b : Bool} (h : b = false) (t e : T α) : (ite b t e).run = e.run := by rw [h]; rfl
theorem run_leads {t : T α} {x : α} : t.run = some x ↔ t.leads x := by
 induction t with
 | ret a => simp [run, leads]
 | ite b p q ip iq => cases b <;> simp [run, leads, ip, iq]
 | obl p t ih => by_cases h : p <;> simp [run, leads, h, ih]
 | fail => simp [run, leads]
theorem run_bind (t : T α) (f : α → T β) : (t.bind f).run = t.run.bind fun a => (f a).run := by
 induction t with
 | ret a => rfl
 | ite b p q ip iq => cases b <;> simp [run, bind, ip, iq]
 | obl p t ih => by_cases h : p <;> simp [run, bind, h, ih]
 | fail => rfl
theorem run_bind_of {t : T α} {a : α} (h : t.run = some a) (f : α → T β) : (t.bind f).run = (f a).run := by rw [run_bind, h]; rfl
section loop
variable {σ ρ : Type} (r : σ → T (σ ⊕ ρ))
inductive Iter : Nat → σ → ρ → Prop
 | done {s : σ} {x : ρ} (h : (r s).leads (.inr x)) : Iter 0 s x
 | step {n : Nat} {s s' : σ} {x : ρ} (h : (r s).leads (.inl s')) (k : Iter n s' x) : Iter (n + 1) s x
theorem Iter.det {r : σ → T (σ ⊕ ρ)} {n m : Nat} {s : σ} {x y : ρ} (h : Iter r n s x) (k : Iter r m s y) : x = y := by
 induction h generalizing m y with
 | done h =>
  cases k with
  | done k => have := leads_fun h k; cases this; rfl
  | step k _ => have := leads_fun h k; cases this
 | step h _ ih =>
  cases k with
  | done k => have := leads_fun h k; cases this
  | step k k2 => have := leads_fun h k; cases this; exact ih k2
open Classical in
noncomputable def loop (s : σ) : T ρ := if h : ∃ x n, Iter r n s x then .ret h.choose else .fail
theorem loop_leads {s : σ} {x : ρ} : (loop r s).leads x ↔ ∃ n, Iter r n s x := by
 unfold loop
 split
 ·rename_i h
  obtain ⟨n, hn⟩ := h.choose_spec
  constructor
  ·intro hx; cases hx; exact ⟨n, hn⟩
  ·rintro ⟨m, hm⟩; exact hn.det hm
 ·rename_i h
  exact ⟨fun k => k.elim, fun ⟨n, hn⟩ => h ⟨x, n, hn⟩⟩
theorem loop_run {r : σ → T (σ ⊕ ρ)} (I : σ → Prop) (μ : σ → Nat) (f : σ → ρ)
  (h : ∀ s, I s → (∃ s', (r s).run = some (.inl s') ∧ I s' ∧ μ s' < μ s ∧ f s' = f s) ∨ (r s).run = some (.inr (f s))) {s : σ} (hs : I s) : (loop r s).run = some (f s) := by
 rw [run_leads, loop_leads]
 generalize hm : μ s = m
 induction m using Nat.strongRecOn generalizing s with
 | _ m ih =>
  rcases h s hs with ⟨s', h1, h2, h3, h4⟩ | h1
  ·obtain ⟨n, hn⟩ := ih (μ s') (by omega) h2 rfl
   exact ⟨n + 1, .step (run_leads.1 h1) (h4 ▸ hn)⟩
  ·exact ⟨0, .done (run_leads.1 h1)⟩
theorem loop_step {r : σ → T (σ ⊕ ρ)} {s s' : σ} (h : (r s).run = some (.inl s')) : (loop r s).run = (loop r s').run := by
 have h' := run_leads.1 h
 apply Option.ext
 intro x
 show (loop r s).run = some x ↔ (loop r s').run = some x
 rw [run_leads, run_leads, loop_leads, loop_leads]
 constructor
 ·rintro ⟨n, hn⟩
  cases hn with
  | done k => have := leads_fun h' k; cases this
  | step k k2 => have := leads_fun h' k; cases this; exact ⟨_, k2⟩
 ·rintro ⟨n, hn⟩; exact ⟨n + 1, .step h' hn⟩
theorem loop_done {r : σ → T (σ ⊕ ρ)} {s : σ} {x : ρ} (h : (r s).run = some (.inr x)) : (loop r s).run = some x := by
 rw [run_leads, loop_leads]; exact ⟨0, .done (run_leads.1 h)⟩
end loop
section fix
variable {σ ρ : Type} (b : (σ → T ρ) → σ → T ρ)
def fixN : Nat → σ → T ρ
 | 0, _ => .fail
 | n + 1, x => b (fixN n) x
open Classical in
noncomputable def fix (x : σ) : T ρ := if h : ∃ y n, ∀ m, n ≤ m → (fixN b m x).leads y then .ret h.choose else .fail
theorem fix_leads {x : σ} {y : ρ} : (fix b x).leads y ↔ ∃ n, ∀ m, n ≤ m → (fixN b m x).leads y := by
 unfold fix
 split
 ·rename_i h
  obtain ⟨n, hn⟩ := h.choose_spec
  constructor
  ·intro hx; cases hx; exact ⟨n, hn⟩
  ·rintro ⟨k, hk⟩; exact leads_fun (hn (max n k) (by omega)) (hk (max n k) (by omega))
 ·rename_i h
  exact ⟨fun k => k.elim, fun ⟨n, hn⟩ => h ⟨y, n, hn⟩⟩
theorem fix_run {b : (σ → T ρ) → σ → T ρ} (I : σ → Prop) (μ : σ → Nat) (f : σ → ρ)
  (h : ∀ x, I x → ∀ g : σ → T ρ, (∀ y, I y → μ y < μ x → (g y).run = some (f y)) → (b g x).run = some (f x)) {x : σ} (hx : I x) : (fix b x).run = some (f x) := by
 rw [run_leads, fix_leads]
 refine ⟨μ x + 1, fun m hm => ?_⟩
 induction m generalizing x with
 | zero => omega
 | succ m ih =>
  rw [← run_leads]
  refine h x hx (fixN b m) fun y hy hlt => ?_
  rw [run_leads]
  exact ih hy (by omega)
end fix
def preO : T α → Option Prop
 | ret _ => none
 | ite b t e => match t.preO, e.preO with
  | none, none => none
  | some p, none => some (b = true → p)
  | none, some q => some (b = false → q)
  | some p, some q => some ((b = true → p) ∧ (b = false → q))
 | obl p t => match t.preO with
  | none => some p
  | some q => some (p ∧ q)
 | fail => some False
def val (d : α) : T α → α
 | ret a => a
 | ite b t e => bif b then t.val d else e.val d
 | obl _ t => t.val d
 | fail => d
def flat (d : α) (t : T α) : T α := match t.preO with
 | none => .ret (t.val d)
 | some p => .obl p (.ret (t.val d))
def preP (t : T α) : Prop := match t.preO with | none => True | some p => p
theorem preP_leads (d : α) (t : T α) (x : α) : t.leads x ↔ t.preP ∧ t.val d = x := by
 induction t with
 | ret a => simp [leads, preP, preO, val]
 | ite b p q ip iq =>
  cases b
  ·simp only [leads, Bool.false_eq_true, false_and, true_and, false_or, val, cond_false, iq]
   unfold preP
   simp only [preO]
   cases p.preO <;> cases q.preO <;> simp
  ·simp only [leads, true_and, Bool.true_eq_false, false_and, or_false, val, cond_true, ip]
   unfold preP
   simp only [preO]
   cases p.preO <;> cases q.preO <;> simp
 | obl p t ih =>
  simp only [leads, ih, val]
  unfold preP
  simp only [preO]
  cases t.preO <;> simp [and_assoc]
 | fail => simp [leads, preP, preO]
end T
abbrev w64 (x : Int) : Int := IntKind.wrap .i64 x
abbrev wu64 (x : Int) : Int := IntKind.wrap .u64 x
abbrev wu32 (x : Int) : Int := IntKind.wrap .u32 x
abbrev wu8 (x : Int) : Int := IntKind.wrap .u8 x
def curOk (ver off len n : Nat) : Prop := ver = n ∧ off = 0 ∧ len = n
def idxOk (i : Int) (n : Nat) : Prop := 0 ≤ i ∧ i < (n : Int)
def eOk (ver ver' idx n : Nat) : Prop := ver = ver' ∧ idx < n
def appOk (ver ver' off len n m bytes : Nat) : Prop := ver = ver' ∧ off = 0 ∧ len = n ∧ (n + m) * bytes ≤ 140737488355328
def slOk (l h : Int) (n : Nat) : Prop := 0 ≤ l ∧ l ≤ h ∧ h ≤ (n : Int)
def repS (l : Str) : Nat → Str
 | 0 => []
 | c + 1 => l ++ repS l c
def idxS : Str → Str → Int
 | [], sub => if sub.isEmpty then 0 else -1
 | b :: l, sub => if sub.isPrefixOf (b :: l) then 0 else if idxS l sub == -1 then -1 else idxS l sub + 1
def idxB : Str → UInt8 → Int
 | [], _ => -1
 | b :: l, c => if b == c then 0 else if idxB l c == -1 then -1 else idxB l c + 1
def cutSt (s sep : Str) : Str × Str × Bool := if 0 ≤ idxS s sep then (s.take (idxS s sep).toNat, s.drop ((idxS s sep).toNat + sep.length), true) else (s, [], false)
def trimPre (s p : Str) : Str := if List.isPrefixOf p s = true then s.drop p.length else s
def asciiF (s : Str) : den (arrN .bool 256) := arrF (e := .bool) (fun j => s.contains (UInt8.ofNat j)) 256 0
def cpyOk (v v' o l n : Nat) : Prop := v = v' ∧ o + l ≤ n
def mkOk (n m : Int) (bytes : Nat) : Prop := 0 ≤ n ∧ n ≤ m ∧ m * bytes ≤ 140737488355328 ∧ m ≤ 140737488355328
def nth {α : Type} (l : List α) (i : Int) (d : α) : α := List.getD l i.toNat d
def nthN {α : Type} (l : List α) (i : Nat) (d : α) : α := List.getD l i d
def byteAt (s : Str) (i : Int) : Int := ((List.getD s i.toNat 0).toNat : Int)
def andI (k : IntKind) (x y : Int) : Int := bitsOp k (· &&& ·) x y
def orI (k : IntKind) (x y : Int) : Int := bitsOp k (· ||| ·) x y
def xorI (k : IntKind) (x y : Int) : Int := bitsOp k (· ^^^ ·) x y
end Go.AM
namespace Go.AM
namespace T
variable {α β : Type}
attribute [simp] run_bind
@[simp] theorem run_iteS (b : Bool) (t e : T α) : (ite b t e).run = if b = true then t.run else e.run := run_ite b t e
@[simp] theorem run_idx {i : Int} {n : Nat} (t : T α) (h1 : 0 ≤ i) (h2 : i < (n : Int)) : (obl (idxOk i n) t).run = t.run := run_obl ⟨h1, h2⟩ t
@[simp] theorem run_e {v v' i n : Nat} (t : T α) (h1 : v = v') (h2 : i < n) : (obl (eOk v v' i n) t).run = t.run := run_obl ⟨h1, h2⟩ t
@[simp] theorem run_app {v v' o l n m b : Nat} (t : T α) (h1 : v = v') (h2 : o = 0) (h3 : l = n) (h4 : (n + m) * b ≤ 140737488355328) : (obl (appOk v v' o l n m b) t).run = t.run := run_obl ⟨h1, h2, h3, h4⟩ t
@[simp] theorem run_cur {v o l n : Nat} (t : T α) (h1 : v = n) (h2 : o = 0) (h3 : l = n) : (obl (curOk v o l n) t).run = t.run := run_obl ⟨h1, h2, h3⟩ t
@[simp] theorem run_sl {l h : Int} {n : Nat} (t : T α) (h1 : 0 ≤ l) (h2 : l ≤ h) (h3 : h ≤ (n : Int)) : (obl (slOk l h n) t).run = t.run := run_obl ⟨h1, h2, h3⟩ t
@[simp] theorem run_mk {n m : Int} {b : Nat} (t : T α) (h1 : 0 ≤ n) (h2 : n ≤ m) (h3 : m * b ≤ 140737488355328) (h4 : m ≤ 140737488355328) : (obl (mkOk n m b) t).run = t.run := run_obl ⟨h1, h2, h3, h4⟩ t
@[simp] theorem run_cpy {v v' o l n : Nat} (t : T α) (h1 : v = v') (h2 : o + l ≤ n) : (obl (cpyOk v v' o l n) t).run = t.run := run_obl ⟨h1, h2⟩ t
@[simp] theorem run_eqN {a b : Nat} (t : T α) (h : a = b) : (obl (a = b) t).run = t.run := run_obl h t
@[simp] theorem run_leN {a b : Nat} (t : T α) (h : a ≤ b) : (obl (a ≤ b) t).run = t.run := run_obl h t
@[simp] theorem run_leI {a b : Int} (t : T α) (h : a ≤ b) : (obl (a ≤ b) t).run = t.run := run_obl h t
@[simp] theorem run_neI {a b : Int} (t : T α) (h : a ≠ b) : (obl (a ≠ b) t).run = t.run := run_obl h t
@[simp] theorem run_true (t : T α) : (obl True t).run = t.run := run_obl trivial t
end T
@[simp] theorem w64_in {x : Int} (h1 : -9223372036854775808 ≤ x) (h2 : x ≤ 9223372036854775807) : w64 x = x := IntWalk.i64_in x ⟨h1, h2⟩
@[simp] theorem wu8_in {x : Int} (h1 : 0 ≤ x) (h2 : x ≤ 255) : wu8 x = x := IntWalk.u8_in x ⟨h1, h2⟩
@[simp] theorem wu32_in {x : Int} (h1 : 0 ≤ x) (h2 : x ≤ 4294967295) : wu32 x = x := IntWalk.u32_in x ⟨h1, h2⟩
@[simp] theorem wu64_in {x : Int} (h1 : 0 ≤ x) (h2 : x ≤ 18446744073709551615) : wu64 x = x := IntWalk.u64_in x ⟨h1, h2⟩
theorem wu32_mod (x : Int) : wu32 x = x % 4294967296 := IntKind.wrap_u32 x
theorem drop_get {α : Type} (l : List α) (d : α) {i : Int} (h0 : 0 ≤ i) (hi : i < (l.length : Int)) : l.drop i.toNat = nth l i d :: l.drop (i + 1).toNat := by
 unfold nth
 have hlt : i.toNat < l.length := by omega
 have e : (i + 1).toNat = i.toNat + 1 := by omega
 rw [e, List.drop_eq_getElem_cons hlt]
 simp [List.getD_eq_getElem?_getD, hlt]
theorem drop_end {α : Type} (l : List α) {i : Int} (hi : ¬ i < (l.length : Int)) : l.drop i.toNat = [] := List.drop_eq_nil_of_le (by omega)
namespace T
variable {σ ρ α β : Type}
theorem loop_list {r : σ → T (σ ⊕ ρ)} (l : List α) (d : α) (e : β → Int → σ) (I : β → List α → Prop) (f : List α → β → ρ)
  (step : ∀ (b : β) (x : α) (xs : List α) (i : Int), 0 ≤ i → i < (l.length : Int) → nth l i d = x → I b (x :: xs) →
   (∃ b', (r (e b i)).run = some (.inl (e b' (i + 1))) ∧ I b' xs ∧ f xs b' = f (x :: xs) b) ∨ (r (e b i)).run = some (.inr (f (x :: xs) b)))
  (done : ∀ b, I b [] → (r (e b (l.length : Int))).run = some (.inr (f [] b))) {b : β} (hI : I b l) : (loop r (e b 0)).run = some (f l b) := by
 have key : ∀ (xs : List α) (i : Nat) (b : β), l.drop i = xs → i ≤ l.length → I b xs → (loop r (e b (i : Int))).run = some (f xs b) := by
  intro xs
  induction xs with
  | nil =>
   intro i b hd hi hb
   have : i = l.length := by have := List.drop_eq_nil_iff.1 hd; omega
   subst this
   exact loop_done (done b hb)
  | cons x xs ih =>
   intro i b hd hi hb
   have hlt : i < l.length := by
    rcases Nat.lt_or_ge i l.length with h | h
    ·exact h
    ·rw [List.drop_eq_nil_of_le h] at hd; cases hd
   have hd' := drop_get l d (i := (i : Int)) (by omega) (by omega)
   have e1 : ((i : Int) + 1).toNat = i + 1 := by omega
   simp only [Int.toNat_natCast, e1] at hd'
   rw [hd] at hd'
   obtain ⟨h1, h2⟩ := List.cons.inj hd'
   rcases step b x xs i (by omega) (by omega) (by rw [h1]) hb with ⟨b', g1, g2, g3⟩ | g1
   ·rw [loop_step g1, ← g3]
    have := ih (i + 1) b' h2.symm (by omega) g2
    simpa using this
   ·exact loop_done g1
 exact key l 0 b (by simp) (Nat.zero_le _) hI
end T
end Go.AM