/-
  The program's functions as trees in plain Lean, part 0: printed by a program of ours.
-/
import Derived.Test.YtalglafbfldajaaGreatDoorAmA
set_option linter.unusedVariables false
noncomputable section
namespace Go.AM.Lf
abbrev tyerrors_errorString : Ty := (.cons .str .nil)
abbrev errors_errorString := den tyerrors_errorString
abbrev tyruntime_errorAddressString : Ty := (.cons .str (.cons (.int .u64) .nil))
abbrev runtime_errorAddressString := den tyruntime_errorAddressString
abbrev tyexpr_stop : Ty := (.cons (.int .i64) (.cons (.int .i64) .nil))
abbrev expr_stop := den tyexpr_stop
abbrev tyunicode_utf8_acceptRange : Ty := (.cons (.int .u8) (.cons (.int .u8) .nil))
abbrev unicode_utf8_acceptRange := den tyunicode_utf8_acceptRange
abbrev tyruntime_boundsError : Ty := (.cons (.int .i64) (.cons (.int .i64) (.cons .bool (.cons (.int .u8) .nil))))
abbrev runtime_boundsError := den tyruntime_boundsError
abbrev tyRat : Ty := (.cons .bool (.cons (.sl (.int .u32)) (.cons (.sl (.int .u32)) .nil)))
abbrev Rat := den tyRat
abbrev tyexpr_parser : Ty := (.cons .str (.cons (.int .i64) (.cons (.int .i64) (.cons .bool .nil))))
abbrev expr_parser := den tyexpr_parser
abbrev tyref5_reader : Ty := (.cons .str (.cons (.int .i64) (.cons (.int .i64) (.cons (.int .i64) (.cons (.int .i64) (.cons .bool .nil))))))
abbrev ref5_reader := den tyref5_reader
def law5_weight_R0 (self_law5_weight : AM.Expr → Int → T Int) (e1 : AM.Expr) : (Int × Int) → T ((Int × Int) ⊕ (Int))
 | (left1,i) =>
 .ite ((decide (i < (Nat.cast (List.length (Expr.kids e1)) : Int))) && (decide ((0 : Int) ≤ left1)))
  (.obl (idxOk i (List.length (Expr.kids e1))) <|
 T.bind (self_law5_weight (nth (Expr.kids e1) i (dflt .expr)) left1) fun left2 =>
 .ret (.inl (left2,(w64 (i + 1)))))
  (.ret (.inr left1))
def law5_weight_L0 (self_law5_weight : AM.Expr → Int → T Int) (e1 : AM.Expr) (s : (Int × Int)) : T (Int) := T.loop (law5_weight_R0 self_law5_weight e1) s
def law5_weight_B (self_law5_weight : AM.Expr → Int → T Int) (e : AM.Expr) (left : Int) : T Int :=
 T.bind (law5_weight_L0 self_law5_weight e ((w64 ((w64 ((w64 ((w64 (left - 3)) - (Nat.cast (List.length (Expr.name e)) : Int))) - (w64 ((8 : Int) * (Nat.cast (List.length (Expr.num e).2.1) : Int))))) - (w64 ((8 : Int) * (Nat.cast (List.length (Expr.num e).2.2.1) : Int))))),(0 : Int))) fun left3 =>
 .ret left3
def law5_weight (e : AM.Expr) (left : Int) : T Int := T.fix (fun F x => law5_weight_B (fun y0 y1 => F (y0,y1)) x.1 x.2) (e,left)
def expr_kids (kind : Int) : T Int :=
 .ite (bif (kind == 1) then (kind == 1) else (kind == 2))
  (.ret (0 : Int))
  (.ite (kind == 7)
  (.ret (1 : Int))
  (.ite (kind == 3)
  (.ret (2 : Int))
  (.ite (kind == 4)
  (.ret (2 : Int))
  (.ite (kind == 5)
  (.ret (2 : Int))
  (.ite (kind == 6)
  (.ret (2 : Int))
  (.ret (-1 : Int)))))))
def nat_Is (a : (List Int)) : T Bool :=
 .obl ((((Nat.cast a.length : Int) == (0 : Int)) = false) → (idxOk (w64 ((Nat.cast a.length : Int) - (1 : Int))) a.length)) <|
 .ret (((Nat.cast a.length : Int) == (0 : Int)) || ((nth a (w64 ((Nat.cast a.length : Int) - (1 : Int))) (dflt (.int .u32))) != 0))
def nat_trim_R0  : (List Int) → T ((List Int) ⊕ ((List Int)))
 | a1 =>
 T.bind (nat_Is a1) fun r =>
 .ite (!r)
  (.obl (slOk (0 : Int) (w64 ((Nat.cast a1.length : Int) - (1 : Int))) a1.length) <|
 .ret (.inl (cutL (e := (.int .u32)) (0 : Int) (w64 ((Nat.cast a1.length : Int) - (1 : Int))) a1)))
  (.ret (.inr a1))
def nat_trim_L0  (s : (List Int)) : T ((List Int)) := T.loop (nat_trim_R0 ) s
def nat_trim (a : (List Int)) : T (List Int) :=
 T.bind (nat_trim_L0  a) fun a2 =>
 .ret a2
def slices_Clone_sl_uint32 (s : (List Int)) : T (List Int) :=
 .obl (s = [] → ∀ r,T.leads (.obl (appOk (0 : Nat) (0 : Nat) (0 : Nat) (0 : Nat) (0 : Nat) s.length (4 : Nat)) <|
 .obl (((0 : Nat) + s.length) = ((0 : Nat) + s.length)) <|
 .ret (List.drop (0 : Nat) (List.take ((0 : Nat) + ((0 : Nat) + s.length)) s)) : T _) r → T.leads (.ret ([] : List Int) : T _) r) <|
 .obl (appOk (0 : Nat) (0 : Nat) (0 : Nat) (0 : Nat) (0 : Nat) s.length (4 : Nat)) <|
 .obl (((0 : Nat) + s.length) = ((0 : Nat) + s.length)) <|
 .ret (List.drop (0 : Nat) (List.take ((0 : Nat) + ((0 : Nat) + s.length)) s))
def nat_Trim (a : (List Int)) : T (List Int) :=
 T.bind (nat_trim a) fun r =>
 T.bind (slices_Clone_sl_uint32 r) fun r1 =>
 .ret r1
def nat_Cmp_R0 (a2 : (List Int)) (b2 : (List Int)) : Int → T (Int ⊕ (Unit ⊕ Int))
 | i =>
 .ite (decide ((0 : Int) ≤ i))
  (.obl (idxOk i a2.length) <|
 .obl (idxOk i b2.length) <|
 .ite ((nth a2 i (dflt (.int .u32))) != (nth b2 i (dflt (.int .u32))))
  (.obl (idxOk i a2.length) <|
 .obl (idxOk i b2.length) <|
 .ite (decide ((nth a2 i (dflt (.int .u32))) < (nth b2 i (dflt (.int .u32)))))
  (.ret (.inr (.inr (-1 : Int))))
  (.ret (.inr (.inr (1 : Int)))))
  (.ret (.inl (w64 (i - 1)))))
  (.ret (.inr (.inl ())))
def nat_Cmp_L0 (a2 : (List Int)) (b2 : (List Int)) (s : Int) : T (Unit ⊕ Int) := T.loop (nat_Cmp_R0 a2 b2) s
def nat_Cmp (a : (List Int)) (b : (List Int)) : T Int :=
 T.bind (nat_trim a) fun a1 =>
 T.bind (nat_trim b) fun b1 =>
 .ite ((Nat.cast a1.length : Int) != (Nat.cast b1.length : Int))
  (.ite (decide ((Nat.cast a1.length : Int) < (Nat.cast b1.length : Int)))
  (.ret (-1 : Int))
  (.ret (1 : Int)))
  (T.bind (nat_Cmp_L0 a1 b1 (w64 ((Nat.cast a1.length : Int) - (1 : Int)))) <|
 Sum.elim (fun _ =>
 .ret (0 : Int))
  (fun x =>
 .ret x))
def math_bits_Div32 (hi : Int) (lo : Int) (y : Int) : T (Int × Int) :=
 .ite ((y != 0) && (decide (y ≤ hi)))
  (.fail)
  (.obl ((0 : Int) ≤ (32 : Int)) <|
 .obl ((wu64 y) ≠ (0 : Int)) <|
 .obl ((wu64 y) ≠ (0 : Int)) <|
 .ret ((wu32 (wu64 (Int.tdiv (orI .u64 (shlI .u64 (wu64 hi) (32 : Int)) (wu64 lo)) (wu64 y)))),(wu32 (Int.tmod (orI .u64 (shlI .u64 (wu64 hi) (32 : Int)) (wu64 lo)) (wu64 y)))))
def nat_small_R0 (a1 : (List Int)) (b1 : Int) : (Int × Int × (List Int)) → T ((Int × Int × (List Int)) ⊕ ((Int × (List Int))))
 | (rest,i,xs) =>
 .ite (decide ((0 : Int) ≤ i))
  (.obl (idxOk i a1.length) <|
 T.bind (math_bits_Div32 rest (nth a1 i (dflt (.int .u32))) b1) fun (r,rest1) =>
 .obl (idxOk i xs.length) <|
 .obl (eOk xs.length xs.length ((0 : Nat) + (Int.toNat i)) xs.length) <|
 .obl (curOk xs.length (0 : Nat) xs.length (List.length (List.set xs ((0 : Nat) + (Int.toNat i)) r))) <|
 .obl (xs.length = (List.length (List.set xs ((0 : Nat) + (Int.toNat i)) r))) <|
 .ret (.inl (rest1,((w64 (i - 1)),(List.set xs ((0 : Nat) + (Int.toNat i)) r)))))
  (.obl (curOk xs.length (0 : Nat) xs.length xs.length) <|
 .obl (xs.length = xs.length) <|
 .ret (.inr (rest,xs)))
def nat_small_L0 (a1 : (List Int)) (b1 : Int) (s : (Int × Int × (List Int))) : T ((Int × (List Int))) := T.loop (nat_small_R0 a1 b1) s
def nat_small (a : (List Int)) (b : Int) : T ((List Int) × Int) :=
 .obl (mkOk (Nat.cast a.length : Int) (Nat.cast a.length : Int) (4 : Nat)) <|
 .obl (curOk (Int.toNat (Nat.cast a.length : Int)) (0 : Nat) (Int.toNat (Nat.cast a.length : Int)) (List.length (List.replicate (Int.toNat (Nat.cast a.length : Int)) (0 : Int)))) <|
 .obl ((Int.toNat (Nat.cast a.length : Int)) = (List.length (List.replicate (Int.toNat (Nat.cast a.length : Int)) (0 : Int)))) <|
 T.bind (nat_small_L0 a b ((0 : Int),((w64 ((Nat.cast a.length : Int) - (1 : Int))),(List.replicate (Int.toNat (Nat.cast a.length : Int)) (0 : Int))))) fun (rest2,xs1) =>
 .obl (xs1.length = xs1.length) <|
 T.bind (nat_trim (List.drop (0 : Nat) (List.take ((0 : Nat) + xs1.length) xs1))) fun r1 =>
 .ret (r1,rest2)
def nat_Of (n : Int) : T (List Int) :=
 .obl ((0 : Int) ≤ (32 : Int)) <|
 T.bind (nat_trim ([(wu32 n),(wu32 (shrI .u64 n (32 : Int)))] : List Int)) fun r =>
 .ret r
def math_bits_Len32 (x : Int) : T Int :=
 .obl (((decide ((65536 : Int) ≤ x)) = true) → ((0 : Int) ≤ (16 : Int))) <|
 .obl (((decide ((256 : Int) ≤ (bif (decide ((65536 : Int) ≤ x)) then (shrI .u32 x (16 : Int)) else x))) = true) → ((0 : Int) ≤ (8 : Int))) <|
 .obl (idxOk (wu8 (bif (decide ((256 : Int) ≤ (bif (decide ((65536 : Int) ≤ x)) then (shrI .u32 x (16 : Int)) else x))) then (shrI .u32 (bif (decide ((65536 : Int) ≤ x)) then (shrI .u32 x (16 : Int)) else x) (8 : Int)) else (bif (decide ((65536 : Int) ≤ x)) then (shrI .u32 x (16 : Int)) else x))) (List.length ([0,1,2,2,3,3,3,3,4,4,4,4,4,4,4,4,5,5,5,5,5,5,5,5,5,5,5,5,5,5,5,5,6,6,6,6,6,6,6,6,6,6,6,6,6,6,6,6,6,6,6,6,6,6,6,6,6,6,6,6,6,6,6,6,7,7,7,7,7,7,7,7,7,7,7,7,7,7,7,7,7,7,7,7,7,7,7,7,7,7,7,7,7,7,7,7,7,7,7,7,7,7,7,7,7,7,7,7,7,7,7,7,7,7,7,7,7,7,7,7,7,7,7,7,7,7,7,7,8,8,8,8,8,8,8,8,8,8,8,8,8,8,8,8,8,8,8,8,8,8,8,8,8,8,8,8,8,8,8,8,8,8,8,8,8,8,8,8,8,8,8,8,8,8,8,8,8,8,8,8,8,8,8,8,8,8,8,8,8,8,8,8,8,8,8,8,8,8,8,8,8,8,8,8,8,8,8,8,8,8,8,8,8,8,8,8,8,8,8,8,8,8,8,8,8,8,8,8,8,8,8,8,8,8,8,8,8,8,8,8,8,8,8,8,8,8,8,8,8,8,8,8,8,8,8,8] : Str))) <|
 .ret (w64 ((bif (decide ((256 : Int) ≤ (bif (decide ((65536 : Int) ≤ x)) then (shrI .u32 x (16 : Int)) else x))) then (w64 ((bif (decide ((65536 : Int) ≤ x)) then (16 : Int) else (0 : Int)) + 8)) else (bif (decide ((65536 : Int) ≤ x)) then (16 : Int) else (0 : Int))) + (w64 (byteAt ([0,1,2,2,3,3,3,3,4,4,4,4,4,4,4,4,5,5,5,5,5,5,5,5,5,5,5,5,5,5,5,5,6,6,6,6,6,6,6,6,6,6,6,6,6,6,6,6,6,6,6,6,6,6,6,6,6,6,6,6,6,6,6,6,7,7,7,7,7,7,7,7,7,7,7,7,7,7,7,7,7,7,7,7,7,7,7,7,7,7,7,7,7,7,7,7,7,7,7,7,7,7,7,7,7,7,7,7,7,7,7,7,7,7,7,7,7,7,7,7,7,7,7,7,7,7,7,7,8,8,8,8,8,8,8,8,8,8,8,8,8,8,8,8,8,8,8,8,8,8,8,8,8,8,8,8,8,8,8,8,8,8,8,8,8,8,8,8,8,8,8,8,8,8,8,8,8,8,8,8,8,8,8,8,8,8,8,8,8,8,8,8,8,8,8,8,8,8,8,8,8,8,8,8,8,8,8,8,8,8,8,8,8,8,8,8,8,8,8,8,8,8,8,8,8,8,8,8,8,8,8,8,8,8,8,8,8,8,8,8,8,8,8,8,8,8,8,8,8,8,8,8,8,8,8,8] : Str) (wu8 (bif (decide ((256 : Int) ≤ (bif (decide ((65536 : Int) ≤ x)) then (shrI .u32 x (16 : Int)) else x))) then (shrI .u32 (bif (decide ((65536 : Int) ≤ x)) then (shrI .u32 x (16 : Int)) else x) (8 : Int)) else (bif (decide ((65536 : Int) ≤ x)) then (shrI .u32 x (16 : Int)) else x)))))))
def math_bits_LeadingZeros32 (x : Int) : T Int :=
 T.bind (math_bits_Len32 x) fun r =>
 .ret (w64 ((32 : Int) - r))
def nat_left_S_R0 (by_1 : Int) (n1 : Int) (x : (List Int)) (x1 : Int) : (Int × (List Int)) → T ((Int × (List Int)) ⊕ ((List Int)))
 | (x2,xs) =>
 .ite (decide (x2 < x1))
  (.obl (idxOk x2 x.length) <|
 .obl ((0 : Int) ≤ by_1) <|
 .obl (idxOk x2 xs.length) <|
 .obl (eOk xs.length xs.length ((0 : Nat) + (Int.toNat x2)) xs.length) <|
 .obl (idxOk x2 xs.length) <|
 .obl (eOk xs.length xs.length ((0 : Nat) + (Int.toNat x2)) xs.length) <|
 .ite (decide ((w64 (x2 + 1)) < n1))
  (.obl ((0 : Int) ≤ (32 : Int)) <|
 .obl (idxOk (w64 (x2 + 1)) xs.length) <|
 .obl (eOk xs.length xs.length ((0 : Nat) + (Int.toNat (w64 (x2 + 1)))) (List.length (List.set xs ((0 : Nat) + (Int.toNat x2)) (orI .u32 (nthN xs ((0 : Nat) + (Int.toNat x2)) (dflt (.int .u32))) (wu32 (shlI .u64 (wu64 (nth x x2 (dflt (.int .u32)))) by_1)))))) <|
 .obl (curOk xs.length (0 : Nat) xs.length (List.length (List.set (List.set xs ((0 : Nat) + (Int.toNat x2)) (orI .u32 (nthN xs ((0 : Nat) + (Int.toNat x2)) (dflt (.int .u32))) (wu32 (shlI .u64 (wu64 (nth x x2 (dflt (.int .u32)))) by_1)))) ((0 : Nat) + (Int.toNat (w64 (x2 + 1)))) (wu32 (shrI .u64 (shlI .u64 (wu64 (nth x x2 (dflt (.int .u32)))) by_1) (32 : Int)))))) <|
 .obl (xs.length = (List.length (List.set (List.set xs ((0 : Nat) + (Int.toNat x2)) (orI .u32 (nthN xs ((0 : Nat) + (Int.toNat x2)) (dflt (.int .u32))) (wu32 (shlI .u64 (wu64 (nth x x2 (dflt (.int .u32)))) by_1)))) ((0 : Nat) + (Int.toNat (w64 (x2 + 1)))) (wu32 (shrI .u64 (shlI .u64 (wu64 (nth x x2 (dflt (.int .u32)))) by_1) (32 : Int)))))) <|
 .ret (.inl ((w64 (x2 + 1)),(List.set (List.set xs ((0 : Nat) + (Int.toNat x2)) (orI .u32 (nthN xs ((0 : Nat) + (Int.toNat x2)) (dflt (.int .u32))) (wu32 (shlI .u64 (wu64 (nth x x2 (dflt (.int .u32)))) by_1)))) ((0 : Nat) + (Int.toNat (w64 (x2 + 1)))) (wu32 (shrI .u64 (shlI .u64 (wu64 (nth x x2 (dflt (.int .u32)))) by_1) (32 : Int)))))))
  (.obl (curOk xs.length (0 : Nat) xs.length (List.length (List.set xs ((0 : Nat) + (Int.toNat x2)) (orI .u32 (nthN xs ((0 : Nat) + (Int.toNat x2)) (dflt (.int .u32))) (wu32 (shlI .u64 (wu64 (nth x x2 (dflt (.int .u32)))) by_1)))))) <|
 .obl (xs.length = (List.length (List.set xs ((0 : Nat) + (Int.toNat x2)) (orI .u32 (nthN xs ((0 : Nat) + (Int.toNat x2)) (dflt (.int .u32))) (wu32 (shlI .u64 (wu64 (nth x x2 (dflt (.int .u32)))) by_1)))))) <|
 .ret (.inl ((w64 (x2 + 1)),(List.set xs ((0 : Nat) + (Int.toNat x2)) (orI .u32 (nthN xs ((0 : Nat) + (Int.toNat x2)) (dflt (.int .u32))) (wu32 (shlI .u64 (wu64 (nth x x2 (dflt (.int .u32)))) by_1))))))))
  (.obl (curOk xs.length (0 : Nat) xs.length xs.length) <|
 .obl (xs.length = xs.length) <|
 .ret (.inr xs))
def nat_left_S_L0 (by_1 : Int) (n1 : Int) (x : (List Int)) (x1 : Int) (s : (Int × (List Int))) : T ((List Int)) := T.loop (nat_left_S_R0 by_1 n1 x x1) s
def nat_left_S (a : (List Int)) (by_ : Int) (n : Int) : T (List Int) :=
 .obl (mkOk n n (4 : Nat)) <|
 .obl (curOk (Int.toNat n) (0 : Nat) (Int.toNat n) (List.length (List.replicate (Int.toNat n) (0 : Int)))) <|
 .obl ((Int.toNat n) = (List.length (List.replicate (Int.toNat n) (0 : Int)))) <|
 T.bind (nat_left_S_L0 by_ n a (Nat.cast a.length : Int) ((0 : Int),(List.replicate (Int.toNat n) (0 : Int)))) fun xs1 =>
 .obl (curOk xs1.length (0 : Nat) xs1.length xs1.length) <|
 .obl (xs1.length = xs1.length) <|
 .ret xs1
def nat_guess_R0 (low1 : Int) (b11 : Int) (b21 : Int) : (Int × Int) → T ((Int × Int) ⊕ (Int))
 | (q,r) =>
 .obl (((0 : Int) ≤ (32 : Int)) ∧ ((((shrI .u64 q (32 : Int)) != 0) = false) → ((0 : Int) ≤ (32 : Int)))) <|
 .ite (((shrI .u64 q (32 : Int)) != 0) || (decide ((orI .u64 (shlI .u64 r (32 : Int)) (wu64 low1)) < (wu64 (q * (wu64 b21))))))
  (.obl ((0 : Int) ≤ (32 : Int)) <|
 .ite ((shrI .u64 (wu64 (r + (wu64 b11))) (32 : Int)) != 0)
  (.ret (.inr (wu64 (q - 1))))
  (.ret (.inl ((wu64 (q - 1)),(wu64 (r + (wu64 b11)))))))
  (.ret (.inr q))
def nat_guess_L0 (low1 : Int) (b11 : Int) (b21 : Int) (s : (Int × Int)) : T (Int) := T.loop (nat_guess_R0 low1 b11 b21) s
def nat_guess (high : Int) (mid : Int) (low : Int) (b1 : Int) (b2 : Int) : T Int :=
 .obl ((0 : Int) ≤ (32 : Int)) <|
 .obl ((wu64 b1) ≠ (0 : Int)) <|
 .obl ((wu64 b1) ≠ (0 : Int)) <|
 T.bind (nat_guess_L0 low b1 b2 ((wu64 (Int.tdiv (orI .u64 (shlI .u64 (wu64 high) (32 : Int)) (wu64 mid)) (wu64 b1))),(Int.tmod (orI .u64 (shlI .u64 (wu64 high) (32 : Int)) (wu64 mid)) (wu64 b1)))) fun q1 =>
 .ret q1
def math_bits_Sub32 (x : Int) (y : Int) (borrow : Int) : T (Int × Int) :=
 .obl ((0 : Int) ≤ (31 : Int)) <|
 .ret ((wu32 ((wu32 (x - y)) - borrow)),(shrI .u32 (orI .u32 (andI .u32 (xorI .u32 (4294967295 : Int) x) y) (andI .u32 (xorI .u32 (4294967295 : Int) (xorI .u32 x y)) (wu32 ((wu32 (x - y)) - borrow)))) (31 : Int)))
def math_bits_Add32 (x : Int) (y : Int) (carry : Int) : T (Int × Int) :=
 .obl ((0 : Int) ≤ (32 : Int)) <|
 .ret ((wu32 (wu64 ((wu64 ((wu64 x) + (wu64 y))) + (wu64 carry)))),(wu32 (shrI .u64 (wu64 ((wu64 ((wu64 x) + (wu64 y))) + (wu64 carry))) (32 : Int))))
def nat_takes_S_R0 (b1 : (List Int)) (q1 : Int) (x : (List Int)) (x1 : Int) : ((Nat × Nat) × Int × Int × Int × (List Int)) → T (((Nat × Nat) × Int × Int × Int × (List Int)) ⊕ (((Nat × Nat) × Int × Int × (List Int))))
 | (u1,carry,borrow,x2,xs) =>
 .ite (decide (x2 < x1))
  (.obl (idxOk x2 x.length) <|
 .obl (idxOk x2 u1.2) <|
 .obl (eOk xs.length xs.length (u1.1 + (Int.toNat x2)) xs.length) <|
 T.bind (math_bits_Sub32 (nthN xs (u1.1 + (Int.toNat x2)) (dflt (.int .u32))) (wu32 (wu64 (carry + (wu64 (q1 * (wu64 (nth x x2 (dflt (.int .u32))))))))) borrow) fun (r,borrow1) =>
 .obl (idxOk x2 u1.2) <|
 .obl (eOk xs.length xs.length (u1.1 + (Int.toNat x2)) xs.length) <|
 .obl ((0 : Int) ≤ (32 : Int)) <|
 .obl (xs.length = xs.length) <|
 .obl (xs.length = (List.length (List.set xs (u1.1 + (Int.toNat x2)) r))) <|
 .ret (.inl (u1,((shrI .u64 (wu64 (carry + (wu64 (q1 * (wu64 (nth x x2 (dflt (.int .u32)))))))) (32 : Int)),(borrow1,((w64 (x2 + 1)),(List.set xs (u1.1 + (Int.toNat x2)) r)))))))
  (.obl (xs.length = xs.length) <|
 .obl (xs.length = xs.length) <|
 .ret (.inr (u1,(carry,(borrow,xs)))))
def nat_takes_S_L0 (b1 : (List Int)) (q1 : Int) (x : (List Int)) (x1 : Int) (s : ((Nat × Nat) × Int × Int × Int × (List Int))) : T (((Nat × Nat) × Int × Int × (List Int))) := T.loop (nat_takes_S_R0 b1 q1 x x1) s
def nat_takes_S_R1 (b2 : (List Int)) (x3 : (List Int)) (x4 : Int) : ((Nat × Nat) × Int × Int × (List Int)) → T (((Nat × Nat) × Int × Int × (List Int)) ⊕ (((Nat × Nat) × Int × (List Int))))
 | (u3,more,x5,xs2) =>
 .ite (decide (x5 < x4))
  (.obl (idxOk x5 x3.length) <|
 .obl (idxOk x5 u3.2) <|
 .obl (eOk xs2.length xs2.length (u3.1 + (Int.toNat x5)) xs2.length) <|
 T.bind (math_bits_Add32 (nthN xs2 (u3.1 + (Int.toNat x5)) (dflt (.int .u32))) (nth x3 x5 (dflt (.int .u32))) more) fun (r2,more1) =>
 .obl (idxOk x5 u3.2) <|
 .obl (eOk xs2.length xs2.length (u3.1 + (Int.toNat x5)) xs2.length) <|
 .obl (xs2.length = xs2.length) <|
 .obl (xs2.length = (List.length (List.set xs2 (u3.1 + (Int.toNat x5)) r2))) <|
 .ret (.inl (u3,(more1,((w64 (x5 + 1)),(List.set xs2 (u3.1 + (Int.toNat x5)) r2))))))
  (.obl (xs2.length = xs2.length) <|
 .obl (xs2.length = xs2.length) <|
 .ret (.inr (u3,(more,xs2))))
def nat_takes_S_L1 (b2 : (List Int)) (x3 : (List Int)) (x4 : Int) (s : ((Nat × Nat) × Int × Int × (List Int))) : T (((Nat × Nat) × Int × (List Int))) := T.loop (nat_takes_S_R1 b2 x3 x4) s
def nat_takes_S (uw : (Nat × Nat)) (b : (List Int)) (q : Int) (u : (List Int)) : T (Bool × (List Int)) :=
 .obl (u.length = u.length) <|
 .obl (u.length = u.length) <|
 T.bind (nat_takes_S_L0 b q b (Nat.cast b.length : Int) (uw,((0 : Int),((0 : Int),((0 : Int),u))))) fun (u2,carry1,borrow2,xs1) =>
 .obl (idxOk (Nat.cast b.length : Int) u2.2) <|
 .obl (eOk xs1.length xs1.length (u2.1 + (Int.toNat (Nat.cast b.length : Int))) xs1.length) <|
 T.bind (math_bits_Sub32 (nthN xs1 (u2.1 + (Int.toNat (Nat.cast b.length : Int))) (dflt (.int .u32))) (wu32 carry1) borrow2) fun (r1,borrow3) =>
 .obl (idxOk (Nat.cast b.length : Int) u2.2) <|
 .obl (eOk xs1.length xs1.length (u2.1 + (Int.toNat (Nat.cast b.length : Int))) xs1.length) <|
 .ite (borrow3 == 0)
  (.obl (xs1.length = (List.length (List.set xs1 (u2.1 + (Int.toNat (Nat.cast b.length : Int))) r1))) <|
 .ret (false,(List.set xs1 (u2.1 + (Int.toNat (Nat.cast b.length : Int))) r1)))
  (.obl (xs1.length = xs1.length) <|
 .obl (xs1.length = (List.length (List.set xs1 (u2.1 + (Int.toNat (Nat.cast b.length : Int))) r1))) <|
 T.bind (nat_takes_S_L1 b b (Nat.cast b.length : Int) (u2,((0 : Int),((0 : Int),(List.set xs1 (u2.1 + (Int.toNat (Nat.cast b.length : Int))) r1))))) fun (u4,more2,xs3) =>
 .obl (idxOk (Nat.cast b.length : Int) u4.2) <|
 .obl (eOk xs3.length xs3.length (u4.1 + (Int.toNat (Nat.cast b.length : Int))) xs3.length) <|
 .obl (idxOk (Nat.cast b.length : Int) u4.2) <|
 .obl (eOk xs3.length xs3.length (u4.1 + (Int.toNat (Nat.cast b.length : Int))) xs3.length) <|
 .obl (xs3.length = (List.length (List.set xs3 (u4.1 + (Int.toNat (Nat.cast b.length : Int))) (wu32 ((nthN xs3 (u4.1 + (Int.toNat (Nat.cast b.length : Int))) (dflt (.int .u32))) + more2))))) <|
 .ret (true,(List.set xs3 (u4.1 + (Int.toNat (Nat.cast b.length : Int))) (wu32 ((nthN xs3 (u4.1 + (Int.toNat (Nat.cast b.length : Int))) (dflt (.int .u32))) + more2)))))
def nat_left_R0 (by_1 : Int) (n1 : Int) (x : (List Int)) (x1 : Int) : (Int × (List Int)) → T ((Int × (List Int)) ⊕ ((List Int)))
 | (x2,xs) =>
 .ite (decide (x2 < x1))
  (.obl (idxOk x2 x.length) <|
 .obl ((0 : Int) ≤ by_1) <|
 .obl (idxOk x2 xs.length) <|
 .obl (eOk xs.length xs.length ((0 : Nat) + (Int.toNat x2)) xs.length) <|
 .obl (idxOk x2 xs.length) <|
 .obl (eOk xs.length xs.length ((0 : Nat) + (Int.toNat x2)) xs.length) <|
 .ite (decide ((w64 (x2 + 1)) < n1))
  (.obl ((0 : Int) ≤ (32 : Int)) <|
 .obl (idxOk (w64 (x2 + 1)) xs.length) <|
 .obl (eOk xs.length xs.length ((0 : Nat) + (Int.toNat (w64 (x2 + 1)))) (List.length (List.set xs ((0 : Nat) + (Int.toNat x2)) (orI .u32 (nthN xs ((0 : Nat) + (Int.toNat x2)) (dflt (.int .u32))) (wu32 (shlI .u64 (wu64 (nth x x2 (dflt (.int .u32)))) by_1)))))) <|
 .obl (curOk xs.length (0 : Nat) xs.length (List.length (List.set (List.set xs ((0 : Nat) + (Int.toNat x2)) (orI .u32 (nthN xs ((0 : Nat) + (Int.toNat x2)) (dflt (.int .u32))) (wu32 (shlI .u64 (wu64 (nth x x2 (dflt (.int .u32)))) by_1)))) ((0 : Nat) + (Int.toNat (w64 (x2 + 1)))) (wu32 (shrI .u64 (shlI .u64 (wu64 (nth x x2 (dflt (.int .u32)))) by_1) (32 : Int)))))) <|
 .obl (xs.length = (List.length (List.set (List.set xs ((0 : Nat) + (Int.toNat x2)) (orI .u32 (nthN xs ((0 : Nat) + (Int.toNat x2)) (dflt (.int .u32))) (wu32 (shlI .u64 (wu64 (nth x x2 (dflt (.int .u32)))) by_1)))) ((0 : Nat) + (Int.toNat (w64 (x2 + 1)))) (wu32 (shrI .u64 (shlI .u64 (wu64 (nth x x2 (dflt (.int .u32)))) by_1) (32 : Int)))))) <|
 .ret (.inl ((w64 (x2 + 1)),(List.set (List.set xs ((0 : Nat) + (Int.toNat x2)) (orI .u32 (nthN xs ((0 : Nat) + (Int.toNat x2)) (dflt (.int .u32))) (wu32 (shlI .u64 (wu64 (nth x x2 (dflt (.int .u32)))) by_1)))) ((0 : Nat) + (Int.toNat (w64 (x2 + 1)))) (wu32 (shrI .u64 (shlI .u64 (wu64 (nth x x2 (dflt (.int .u32)))) by_1) (32 : Int)))))))
  (.obl (curOk xs.length (0 : Nat) xs.length (List.length (List.set xs ((0 : Nat) + (Int.toNat x2)) (orI .u32 (nthN xs ((0 : Nat) + (Int.toNat x2)) (dflt (.int .u32))) (wu32 (shlI .u64 (wu64 (nth x x2 (dflt (.int .u32)))) by_1)))))) <|
 .obl (xs.length = (List.length (List.set xs ((0 : Nat) + (Int.toNat x2)) (orI .u32 (nthN xs ((0 : Nat) + (Int.toNat x2)) (dflt (.int .u32))) (wu32 (shlI .u64 (wu64 (nth x x2 (dflt (.int .u32)))) by_1)))))) <|
 .ret (.inl ((w64 (x2 + 1)),(List.set xs ((0 : Nat) + (Int.toNat x2)) (orI .u32 (nthN xs ((0 : Nat) + (Int.toNat x2)) (dflt (.int .u32))) (wu32 (shlI .u64 (wu64 (nth x x2 (dflt (.int .u32)))) by_1))))))))
  (.obl (curOk xs.length (0 : Nat) xs.length xs.length) <|
 .obl (xs.length = xs.length) <|
 .ret (.inr xs))
def nat_left_L0 (by_1 : Int) (n1 : Int) (x : (List Int)) (x1 : Int) (s : (Int × (List Int))) : T ((List Int)) := T.loop (nat_left_R0 by_1 n1 x x1) s
def nat_left (a : (List Int)) (by_ : Int) (n : Int) : T (List Int) :=
 .obl (mkOk n n (4 : Nat)) <|
 .obl (curOk (Int.toNat n) (0 : Nat) (Int.toNat n) (List.length (List.replicate (Int.toNat n) (0 : Int)))) <|
 .obl ((Int.toNat n) = (List.length (List.replicate (Int.toNat n) (0 : Int)))) <|
 T.bind (nat_left_L0 by_ n a (Nat.cast a.length : Int) ((0 : Int),(List.replicate (Int.toNat n) (0 : Int)))) fun xs1 =>
 .obl (xs1.length = xs1.length) <|
 .ret (List.drop (0 : Nat) (List.take ((0 : Nat) + xs1.length) xs1))
def nat_Shift_R0 (by_ : Int) (x : (List Int)) (x1 : Int) : (Int × (List Int)) → T ((Int × (List Int)) ⊕ ((List Int)))
 | (x2,xs) =>
 .ite (decide (x2 < x1))
  (.obl (idxOk x2 x.length) <|
 .obl ((0 : Int) ≤ (32 : Int)) <|
 .obl ((0 : Int) ≤ by_) <|
 .obl (idxOk x2 xs.length) <|
 .obl (eOk xs.length xs.length ((0 : Nat) + (Int.toNat x2)) xs.length) <|
 .obl ((0 : Int) ≤ (32 : Int)) <|
 .obl (idxOk x2 xs.length) <|
 .obl (eOk xs.length xs.length ((0 : Nat) + (Int.toNat x2)) xs.length) <|
 .ite (decide ((0 : Int) < x2))
  (.obl (idxOk (w64 (x2 - 1)) xs.length) <|
 .obl (eOk xs.length xs.length ((0 : Nat) + (Int.toNat (w64 (x2 - 1)))) (List.length (List.set xs ((0 : Nat) + (Int.toNat x2)) (orI .u32 (nthN xs ((0 : Nat) + (Int.toNat x2)) (dflt (.int .u32))) (wu32 (shrI .u64 (shrI .u64 (shlI .u64 (wu64 (nth x x2 (dflt (.int .u32)))) (32 : Int)) by_) (32 : Int))))))) <|
 .obl (idxOk (w64 (x2 - 1)) xs.length) <|
 .obl (eOk xs.length xs.length ((0 : Nat) + (Int.toNat (w64 (x2 - 1)))) (List.length (List.set xs ((0 : Nat) + (Int.toNat x2)) (orI .u32 (nthN xs ((0 : Nat) + (Int.toNat x2)) (dflt (.int .u32))) (wu32 (shrI .u64 (shrI .u64 (shlI .u64 (wu64 (nth x x2 (dflt (.int .u32)))) (32 : Int)) by_) (32 : Int))))))) <|
 .obl (curOk xs.length (0 : Nat) xs.length (List.length (List.set (List.set xs ((0 : Nat) + (Int.toNat x2)) (orI .u32 (nthN xs ((0 : Nat) + (Int.toNat x2)) (dflt (.int .u32))) (wu32 (shrI .u64 (shrI .u64 (shlI .u64 (wu64 (nth x x2 (dflt (.int .u32)))) (32 : Int)) by_) (32 : Int))))) ((0 : Nat) + (Int.toNat (w64 (x2 - 1)))) (orI .u32 (nthN (List.set xs ((0 : Nat) + (Int.toNat x2)) (orI .u32 (nthN xs ((0 : Nat) + (Int.toNat x2)) (dflt (.int .u32))) (wu32 (shrI .u64 (shrI .u64 (shlI .u64 (wu64 (nth x x2 (dflt (.int .u32)))) (32 : Int)) by_) (32 : Int))))) ((0 : Nat) + (Int.toNat (w64 (x2 - 1)))) (dflt (.int .u32))) (wu32 (shrI .u64 (shlI .u64 (wu64 (nth x x2 (dflt (.int .u32)))) (32 : Int)) by_)))))) <|
 .obl (xs.length = (List.length (List.set (List.set xs ((0 : Nat) + (Int.toNat x2)) (orI .u32 (nthN xs ((0 : Nat) + (Int.toNat x2)) (dflt (.int .u32))) (wu32 (shrI .u64 (shrI .u64 (shlI .u64 (wu64 (nth x x2 (dflt (.int .u32)))) (32 : Int)) by_) (32 : Int))))) ((0 : Nat) + (Int.toNat (w64 (x2 - 1)))) (orI .u32 (nthN (List.set xs ((0 : Nat) + (Int.toNat x2)) (orI .u32 (nthN xs ((0 : Nat) + (Int.toNat x2)) (dflt (.int .u32))) (wu32 (shrI .u64 (shrI .u64 (shlI .u64 (wu64 (nth x x2 (dflt (.int .u32)))) (32 : Int)) by_) (32 : Int))))) ((0 : Nat) + (Int.toNat (w64 (x2 - 1)))) (dflt (.int .u32))) (wu32 (shrI .u64 (shlI .u64 (wu64 (nth x x2 (dflt (.int .u32)))) (32 : Int)) by_)))))) <|
 .ret (.inl ((w64 (x2 + 1)),(List.set (List.set xs ((0 : Nat) + (Int.toNat x2)) (orI .u32 (nthN xs ((0 : Nat) + (Int.toNat x2)) (dflt (.int .u32))) (wu32 (shrI .u64 (shrI .u64 (shlI .u64 (wu64 (nth x x2 (dflt (.int .u32)))) (32 : Int)) by_) (32 : Int))))) ((0 : Nat) + (Int.toNat (w64 (x2 - 1)))) (orI .u32 (nthN (List.set xs ((0 : Nat) + (Int.toNat x2)) (orI .u32 (nthN xs ((0 : Nat) + (Int.toNat x2)) (dflt (.int .u32))) (wu32 (shrI .u64 (shrI .u64 (shlI .u64 (wu64 (nth x x2 (dflt (.int .u32)))) (32 : Int)) by_) (32 : Int))))) ((0 : Nat) + (Int.toNat (w64 (x2 - 1)))) (dflt (.int .u32))) (wu32 (shrI .u64 (shlI .u64 (wu64 (nth x x2 (dflt (.int .u32)))) (32 : Int)) by_)))))))
  (.obl (curOk xs.length (0 : Nat) xs.length (List.length (List.set xs ((0 : Nat) + (Int.toNat x2)) (orI .u32 (nthN xs ((0 : Nat) + (Int.toNat x2)) (dflt (.int .u32))) (wu32 (shrI .u64 (shrI .u64 (shlI .u64 (wu64 (nth x x2 (dflt (.int .u32)))) (32 : Int)) by_) (32 : Int))))))) <|
 .obl (xs.length = (List.length (List.set xs ((0 : Nat) + (Int.toNat x2)) (orI .u32 (nthN xs ((0 : Nat) + (Int.toNat x2)) (dflt (.int .u32))) (wu32 (shrI .u64 (shrI .u64 (shlI .u64 (wu64 (nth x x2 (dflt (.int .u32)))) (32 : Int)) by_) (32 : Int))))))) <|
 .ret (.inl ((w64 (x2 + 1)),(List.set xs ((0 : Nat) + (Int.toNat x2)) (orI .u32 (nthN xs ((0 : Nat) + (Int.toNat x2)) (dflt (.int .u32))) (wu32 (shrI .u64 (shrI .u64 (shlI .u64 (wu64 (nth x x2 (dflt (.int .u32)))) (32 : Int)) by_) (32 : Int)))))))))
  (.obl (curOk xs.length (0 : Nat) xs.length xs.length) <|
 .obl (xs.length = xs.length) <|
 .ret (.inr xs))
def nat_Shift_L0 (by_ : Int) (x : (List Int)) (x1 : Int) (s : (Int × (List Int))) : T ((List Int)) := T.loop (nat_Shift_R0 by_ x x1) s
def nat_Shift (a : (List Int)) (n : Int) : T (List Int) :=
 T.bind (nat_trim a) fun a1 =>
 .ite (decide ((minI (maxI n (-4096 : Int)) (4096 : Int)) < (0 : Int)))
  (.obl ((32 : Int) ≠ (0 : Int)) <|
 .ite (decide ((Nat.cast a1.length : Int) ≤ (w64 (Int.tdiv (w64 ((0 : Int) - (minI (maxI n (-4096 : Int)) (4096 : Int)))) (32 : Int)))))
  (.ret ([] : List Int))
  (.obl ((32 : Int) ≠ (0 : Int)) <|
 .obl (mkOk (w64 ((Nat.cast a1.length : Int) - (w64 (Int.tdiv (w64 ((0 : Int) - (minI (maxI n (-4096 : Int)) (4096 : Int)))) (32 : Int))))) (w64 ((Nat.cast a1.length : Int) - (w64 (Int.tdiv (w64 ((0 : Int) - (minI (maxI n (-4096 : Int)) (4096 : Int)))) (32 : Int))))) (4 : Nat)) <|
 .obl (slOk (w64 (Int.tdiv (w64 ((0 : Int) - (minI (maxI n (-4096 : Int)) (4096 : Int)))) (32 : Int))) (Nat.cast a1.length : Int) a1.length) <|
 .obl (curOk (Int.toNat (w64 ((Nat.cast a1.length : Int) - (w64 (Int.tdiv (w64 ((0 : Int) - (minI (maxI n (-4096 : Int)) (4096 : Int)))) (32 : Int)))))) (0 : Nat) (Int.toNat (w64 ((Nat.cast a1.length : Int) - (w64 (Int.tdiv (w64 ((0 : Int) - (minI (maxI n (-4096 : Int)) (4096 : Int)))) (32 : Int)))))) (List.length (List.replicate (Int.toNat (w64 ((Nat.cast a1.length : Int) - (w64 (Int.tdiv (w64 ((0 : Int) - (minI (maxI n (-4096 : Int)) (4096 : Int)))) (32 : Int)))))) (0 : Int)))) <|
 .obl ((Int.toNat (w64 ((Nat.cast a1.length : Int) - (w64 (Int.tdiv (w64 ((0 : Int) - (minI (maxI n (-4096 : Int)) (4096 : Int)))) (32 : Int)))))) = (List.length (List.replicate (Int.toNat (w64 ((Nat.cast a1.length : Int) - (w64 (Int.tdiv (w64 ((0 : Int) - (minI (maxI n (-4096 : Int)) (4096 : Int)))) (32 : Int)))))) (0 : Int)))) <|
 T.bind (nat_Shift_L0 (wu64 (Int.tmod (w64 ((0 : Int) - (minI (maxI n (-4096 : Int)) (4096 : Int)))) (32 : Int))) (cutL (e := (.int .u32)) (w64 (Int.tdiv (w64 ((0 : Int) - (minI (maxI n (-4096 : Int)) (4096 : Int)))) (32 : Int))) (Nat.cast a1.length : Int) a1) (Nat.cast (List.length (cutL (e := (.int .u32)) (w64 (Int.tdiv (w64 ((0 : Int) - (minI (maxI n (-4096 : Int)) (4096 : Int)))) (32 : Int))) (Nat.cast a1.length : Int) a1)) : Int) ((0 : Int),(List.replicate (Int.toNat (w64 ((Nat.cast a1.length : Int) - (w64 (Int.tdiv (w64 ((0 : Int) - (minI (maxI n (-4096 : Int)) (4096 : Int)))) (32 : Int)))))) (0 : Int)))) fun xs1 =>
 .obl (xs1.length = xs1.length) <|
 T.bind (nat_trim (List.drop (0 : Nat) (List.take ((0 : Nat) + xs1.length) xs1))) fun r =>
 .ret r))
  (.obl ((32 : Int) ≠ (0 : Int)) <|
 .obl (mkOk (w64 ((w64 ((w64 (Int.tdiv (minI (maxI n (-4096 : Int)) (4096 : Int)) (32 : Int))) + (Nat.cast a1.length : Int))) + 1)) (w64 ((w64 ((w64 (Int.tdiv (minI (maxI n (-4096 : Int)) (4096 : Int)) (32 : Int))) + (Nat.cast a1.length : Int))) + 1)) (4 : Nat)) <|
 .obl (slOk (w64 (Int.tdiv (minI (maxI n (-4096 : Int)) (4096 : Int)) (32 : Int))) (Nat.cast (Int.toNat (w64 ((w64 ((w64 (Int.tdiv (minI (maxI n (-4096 : Int)) (4096 : Int)) (32 : Int))) + (Nat.cast a1.length : Int))) + 1))) : Int) (Int.toNat (w64 ((w64 ((w64 (Int.tdiv (minI (maxI n (-4096 : Int)) (4096 : Int)) (32 : Int))) + (Nat.cast a1.length : Int))) + 1)))) <|
 .obl ((32 : Int) ≠ (0 : Int)) <|
 T.bind (nat_left a1 (wu64 (Int.tmod (minI (maxI n (-4096 : Int)) (4096 : Int)) (32 : Int))) (w64 ((Nat.cast a1.length : Int) + (1 : Int)))) fun r1 =>
 .obl (cpyOk (Int.toNat (w64 ((w64 ((w64 (Int.tdiv (minI (maxI n (-4096 : Int)) (4096 : Int)) (32 : Int))) + (Nat.cast a1.length : Int))) + 1))) (Int.toNat (w64 ((w64 ((w64 (Int.tdiv (minI (maxI n (-4096 : Int)) (4096 : Int)) (32 : Int))) + (Nat.cast a1.length : Int))) + 1))) ((0 : Nat) + (Int.toNat (w64 (Int.tdiv (minI (maxI n (-4096 : Int)) (4096 : Int)) (32 : Int))))) ((Int.toNat (Nat.cast (Int.toNat (w64 ((w64 ((w64 (Int.tdiv (minI (maxI n (-4096 : Int)) (4096 : Int)) (32 : Int))) + (Nat.cast a1.length : Int))) + 1))) : Int)) - (Int.toNat (w64 (Int.tdiv (minI (maxI n (-4096 : Int)) (4096 : Int)) (32 : Int))))) (List.length (List.replicate (Int.toNat (w64 ((w64 ((w64 (Int.tdiv (minI (maxI n (-4096 : Int)) (4096 : Int)) (32 : Int))) + (Nat.cast a1.length : Int))) + 1))) (0 : Int)))) <|
 .obl ((Int.toNat (w64 ((w64 ((w64 (Int.tdiv (minI (maxI n (-4096 : Int)) (4096 : Int)) (32 : Int))) + (Nat.cast a1.length : Int))) + 1))) = (Int.toNat (w64 ((w64 ((w64 (Int.tdiv (minI (maxI n (-4096 : Int)) (4096 : Int)) (32 : Int))) + (Nat.cast a1.length : Int))) + 1)))) <|
 T.bind (nat_trim (List.drop (0 : Nat) (List.take ((0 : Nat) + (Int.toNat (w64 ((w64 ((w64 (Int.tdiv (minI (maxI n (-4096 : Int)) (4096 : Int)) (32 : Int))) + (Nat.cast a1.length : Int))) + 1)))) (copyL ((0 : Nat) + (Int.toNat (w64 (Int.tdiv (minI (maxI n (-4096 : Int)) (4096 : Int)) (32 : Int))))) ((Int.toNat (Nat.cast (Int.toNat (w64 ((w64 ((w64 (Int.tdiv (minI (maxI n (-4096 : Int)) (4096 : Int)) (32 : Int))) + (Nat.cast a1.length : Int))) + 1))) : Int)) - (Int.toNat (w64 (Int.tdiv (minI (maxI n (-4096 : Int)) (4096 : Int)) (32 : Int))))) (List.replicate (Int.toNat (w64 ((w64 ((w64 (Int.tdiv (minI (maxI n (-4096 : Int)) (4096 : Int)) (32 : Int))) + (Nat.cast a1.length : Int))) + 1))) (0 : Int)) r1)))) fun r2 =>
 .ret r2)
def nat_long_R0 (by_ : Int) (d : (List Int)) (n : Int) : (Int × (List Int) × (List Int)) → T ((Int × (List Int) × (List Int)) ⊕ (((List Int) × (List Int))))
 | (i,xs2,xs3) =>
 .ite (decide ((0 : Int) ≤ i))
  (.obl (idxOk (w64 (i + n)) xs2.length) <|
 .obl (eOk xs2.length xs2.length ((0 : Nat) + (Int.toNat (w64 (i + n)))) xs2.length) <|
 .obl (idxOk (w64 ((w64 (i + n)) - 1)) xs2.length) <|
 .obl (eOk xs2.length xs2.length ((0 : Nat) + (Int.toNat (w64 ((w64 (i + n)) - 1)))) xs2.length) <|
 .obl (idxOk (w64 ((w64 (i + n)) - 2)) xs2.length) <|
 .obl (eOk xs2.length xs2.length ((0 : Nat) + (Int.toNat (w64 ((w64 (i + n)) - 2)))) xs2.length) <|
 .obl (idxOk (w64 (n - 1)) d.length) <|
 .obl (idxOk (w64 (n - 2)) d.length) <|
 T.bind (nat_guess (nthN xs2 ((0 : Nat) + (Int.toNat (w64 (i + n)))) (dflt (.int .u32))) (nthN xs2 ((0 : Nat) + (Int.toNat (w64 ((w64 (i + n)) - 1)))) (dflt (.int .u32))) (nthN xs2 ((0 : Nat) + (Int.toNat (w64 ((w64 (i + n)) - 2)))) (dflt (.int .u32))) (nth d (w64 (n - 1)) (dflt (.int .u32))) (nth d (w64 (n - 2)) (dflt (.int .u32)))) fun x =>
 T.bind (.obl (slOk i (w64 ((w64 (i + n)) + 1)) xs2.length) <|
 .obl (xs2.length = xs2.length) <|
 .obl (xs2.length = xs2.length) <|
 T.bind (nat_takes_S (((0 : Nat) + (Int.toNat i)),((Int.toNat (w64 ((w64 (i + n)) + 1))) - (Int.toNat i))) d x xs2) fun (r1,u) =>
 .ite r1
  (.obl (curOk xs3.length (0 : Nat) xs3.length xs3.length) <|
 .obl (curOk xs2.length (0 : Nat) xs2.length u.length) <|
 .obl (u.length = u.length) <|
 .obl (xs3.length = xs3.length) <|
 .ret ((wu64 (x - 1)),(u,xs3)))
  (.obl (curOk xs3.length (0 : Nat) xs3.length xs3.length) <|
 .obl (curOk xs2.length (0 : Nat) xs2.length u.length) <|
 .obl (u.length = u.length) <|
 .obl (xs3.length = xs3.length) <|
 .ret (x,(u,xs3))) : T ((Int × (List Int) × (List Int)))) fun (x1,xs4,xs5) =>
 .obl (idxOk i xs5.length) <|
 .obl (eOk xs5.length xs5.length ((0 : Nat) + (Int.toNat i)) xs5.length) <|
 .obl (curOk xs5.length (0 : Nat) xs5.length (List.length (List.set xs5 ((0 : Nat) + (Int.toNat i)) (wu32 x1)))) <|
 .obl (curOk xs4.length (0 : Nat) xs4.length xs4.length) <|
 .obl (xs4.length = xs4.length) <|
 .obl (xs5.length = (List.length (List.set xs5 ((0 : Nat) + (Int.toNat i)) (wu32 x1)))) <|
 .ret (.inl ((w64 (i - 1)),(xs4,(List.set xs5 ((0 : Nat) + (Int.toNat i)) (wu32 x1))))))
  (.obl (curOk xs3.length (0 : Nat) xs3.length xs3.length) <|
 .obl (curOk xs2.length (0 : Nat) xs2.length xs2.length) <|
 .obl (xs2.length = xs2.length) <|
 .obl (xs3.length = xs3.length) <|
 .ret (.inr (xs2,xs3)))
def nat_long_L0 (by_ : Int) (d : (List Int)) (n : Int) (s : (Int × (List Int) × (List Int))) : T (((List Int) × (List Int))) := T.loop (nat_long_R0 by_ d n) s
def nat_long (a : (List Int)) (b : (List Int)) : T ((List Int) × (List Int)) :=
 .obl (idxOk (w64 ((Nat.cast b.length : Int) - (1 : Int))) b.length) <|
 T.bind (math_bits_LeadingZeros32 (nth b (w64 ((Nat.cast b.length : Int) - (1 : Int))) (dflt (.int .u32)))) fun r =>
 T.bind (nat_left_S a (wu64 r) (w64 ((Nat.cast a.length : Int) + (1 : Int)))) fun xs =>
 T.bind (nat_left_S b (wu64 r) (Nat.cast b.length : Int)) fun xs1 =>
 .obl (mkOk (w64 ((w64 ((Nat.cast a.length : Int) - (Nat.cast xs1.length : Int))) + 1)) (w64 ((w64 ((Nat.cast a.length : Int) - (Nat.cast xs1.length : Int))) + 1)) (4 : Nat)) <|
 .obl (xs1.length = xs1.length) <|
 .obl (curOk (Int.toNat (w64 ((w64 ((Nat.cast a.length : Int) - (Nat.cast xs1.length : Int))) + 1))) (0 : Nat) (Int.toNat (w64 ((w64 ((Nat.cast a.length : Int) - (Nat.cast xs1.length : Int))) + 1))) (List.length (List.replicate (Int.toNat (w64 ((w64 ((Nat.cast a.length : Int) - (Nat.cast xs1.length : Int))) + 1))) (0 : Int)))) <|
 .obl (curOk xs.length (0 : Nat) xs.length xs.length) <|
 .obl (xs.length = xs.length) <|
 .obl ((Int.toNat (w64 ((w64 ((Nat.cast a.length : Int) - (Nat.cast xs1.length : Int))) + 1))) = (List.length (List.replicate (Int.toNat (w64 ((w64 ((Nat.cast a.length : Int) - (Nat.cast xs1.length : Int))) + 1))) (0 : Int)))) <|
 T.bind (nat_long_L0 (wu64 r) (List.drop (0 : Nat) (List.take ((0 : Nat) + xs1.length) xs1)) (Nat.cast xs1.length : Int) ((w64 ((Nat.cast (Int.toNat (w64 ((w64 ((Nat.cast a.length : Int) - (Nat.cast xs1.length : Int))) + 1))) : Int) - (1 : Int))),(xs,(List.replicate (Int.toNat (w64 ((w64 ((Nat.cast a.length : Int) - (Nat.cast xs1.length : Int))) + 1))) (0 : Int))))) fun (xs6,xs7) =>
 .obl (xs7.length = xs7.length) <|
 .obl (xs6.length = xs6.length) <|
 T.bind (nat_trim (List.drop (0 : Nat) (List.take ((0 : Nat) + xs7.length) xs7))) fun q1 =>
 .obl (slOk (0 : Int) (Nat.cast xs1.length : Int) (List.length (List.drop (0 : Nat) (List.take ((0 : Nat) + xs6.length) xs6)))) <|
 T.bind (nat_Shift (cutL (e := (.int .u32)) (0 : Int) (Nat.cast xs1.length : Int) (List.drop (0 : Nat) (List.take ((0 : Nat) + xs6.length) xs6))) (w64 ((0 : Int) - (w64 (wu64 r))))) fun r2 =>
 .ret (q1,r2)
def nat_DivMod (a : (List Int)) (b : (List Int)) : T ((List Int) × (List Int) × Bool) :=
 T.bind (nat_trim a) fun a1 =>
 T.bind (nat_trim b) fun b1 =>
 .ite ((Nat.cast b1.length : Int) == (0 : Int))
  (.ret (([] : List Int),(([] : List Int),false)))
  (T.bind (nat_Cmp a1 b1) fun r =>
 .ite (decide (r < (0 : Int)))
  (T.bind (nat_Trim a1) fun r1 =>
 .ret (([] : List Int),(r1,true)))
  (.ite ((Nat.cast b1.length : Int) == (1 : Int))
  (.obl (idxOk (0 : Int) b1.length) <|
 T.bind (nat_small a1 (nth b1 (0 : Int) (dflt (.int .u32)))) fun (q,rest) =>
 T.bind (nat_Of (wu64 rest)) fun r2 =>
 .ret (q,(r2,true)))
  (T.bind (nat_long a1 b1) fun (q1,r3) =>
 .ret (q1,(r3,true)))))
def nat_Gcd_R0  : ((List Int) × (List Int)) → T (((List Int) × (List Int)) ⊕ ((List Int)))
 | (a2,b2) =>
 .ite (decide ((0 : Int) < (Nat.cast b2.length : Int)))
  (T.bind (nat_DivMod a2 b2) fun (r,r1,r2) =>
 .ret (.inl (b2,r1)))
  (.ret (.inr a2))
def nat_Gcd_L0  (s : ((List Int) × (List Int))) : T ((List Int)) := T.loop (nat_Gcd_R0 ) s
def nat_Gcd (a : (List Int)) (b : (List Int)) : T (List Int) :=
 T.bind (nat_Trim a) fun a1 =>
 T.bind (nat_Trim b) fun b1 =>
 T.bind (nat_Gcd_L0  (a1,b1)) fun a3 =>
 .ret a3
def rat_Is (a : Rat) : T Bool :=
 T.bind (T.bind (nat_Is a.2.1) fun r =>
 .ite (!r)
  (.ret true)
  (T.bind (nat_Is a.2.2.1) fun r1 =>
 .ite (!r1)
  (.ret true)
  (.ite ((Nat.cast a.2.2.1.length : Int) == (0 : Int))
  (.ret true)
  (.ite a.1
  (.ret ((Nat.cast a.2.1.length : Int) == (0 : Int)))
  (.ret false)))) : T (Bool)) fun x =>
 .ite x
  (.ret false)
  (T.bind (nat_Gcd a.2.1 a.2.2.1) fun r2 =>
 T.bind (nat_Of (1 : Int)) fun r3 =>
 T.bind (nat_Cmp r2 r3) fun r4 =>
 .ret (r4 == 0))
def rat_Of (neg : Bool) (n : (List Int)) (d : (List Int)) : T Rat :=
 T.bind (nat_Trim n) fun n1 =>
 T.bind (nat_Trim d) fun d1 =>
 .ite (((Nat.cast n1.length : Int) == (0 : Int)) || ((Nat.cast d1.length : Int) == (0 : Int)))
  (T.bind (nat_Of (1 : Int)) fun r =>
 .ret (false,(([] : List Int),(r,()))))
  (T.bind (nat_Gcd n1 d1) fun g =>
 T.bind (nat_DivMod n1 g) fun (n2,r1,r2) =>
 T.bind (nat_DivMod d1 g) fun (d2,r3,r4) =>
 .ret (neg,(n2,(d2,()))))
def rat_Norm (a : Rat) : T Rat :=
 T.bind (rat_Of a.1 a.2.1 a.2.2.1) fun r =>
 .ret r
def rat_Large (a : Rat) : T Bool :=
 T.bind (rat_Norm a) fun r =>
 .ret ((decide ((16 : Int) < (Nat.cast r.2.1.length : Int))) || (decide ((16 : Int) < (Nat.cast r.2.2.1.length : Int))))
def nat_Mul_R1 (b3 : (List Int)) (i : Int) (v : Int) (x3 : (List Int)) (x4 : Int) (x5 : Int) (x6 : (List Int)) (x7 : Int) : (Int × Int × (List Int)) → T ((Int × Int × (List Int)) ⊕ ((Int × (List Int))))
 | (carry,x8,xs1) =>
 .ite (decide (x8 < x7))
  (.obl (idxOk x8 x6.length) <|
 .obl (idxOk (w64 (i + x8)) xs1.length) <|
 .obl (eOk xs1.length xs1.length ((0 : Nat) + (Int.toNat (w64 (i + x8)))) xs1.length) <|
 .obl (idxOk (w64 (i + x8)) xs1.length) <|
 .obl (eOk xs1.length xs1.length ((0 : Nat) + (Int.toNat (w64 (i + x8)))) xs1.length) <|
 .obl ((0 : Int) ≤ (32 : Int)) <|
 .obl (curOk xs1.length (0 : Nat) xs1.length (List.length (List.set xs1 ((0 : Nat) + (Int.toNat (w64 (i + x8)))) (wu32 (wu64 (carry + (wu64 ((wu64 ((wu64 v) * (wu64 (nth x6 x8 (dflt (.int .u32)))))) + (wu64 (nthN xs1 ((0 : Nat) + (Int.toNat (w64 (i + x8)))) (dflt (.int .u32)))))))))))) <|
 .obl (xs1.length = (List.length (List.set xs1 ((0 : Nat) + (Int.toNat (w64 (i + x8)))) (wu32 (wu64 (carry + (wu64 ((wu64 ((wu64 v) * (wu64 (nth x6 x8 (dflt (.int .u32)))))) + (wu64 (nthN xs1 ((0 : Nat) + (Int.toNat (w64 (i + x8)))) (dflt (.int .u32)))))))))))) <|
 .ret (.inl ((shrI .u64 (wu64 (carry + (wu64 ((wu64 ((wu64 v) * (wu64 (nth x6 x8 (dflt (.int .u32)))))) + (wu64 (nthN xs1 ((0 : Nat) + (Int.toNat (w64 (i + x8)))) (dflt (.int .u32)))))))) (32 : Int)),((w64 (x8 + 1)),(List.set xs1 ((0 : Nat) + (Int.toNat (w64 (i + x8)))) (wu32 (wu64 (carry + (wu64 ((wu64 ((wu64 v) * (wu64 (nth x6 x8 (dflt (.int .u32)))))) + (wu64 (nthN xs1 ((0 : Nat) + (Int.toNat (w64 (i + x8)))) (dflt (.int .u32))))))))))))))
  (.obl (curOk xs1.length (0 : Nat) xs1.length xs1.length) <|
 .obl (xs1.length = xs1.length) <|
 .ret (.inr (carry,xs1)))
def nat_Mul_L1 (b3 : (List Int)) (i : Int) (v : Int) (x3 : (List Int)) (x4 : Int) (x5 : Int) (x6 : (List Int)) (x7 : Int) (s : (Int × Int × (List Int))) : T ((Int × (List Int))) := T.loop (nat_Mul_R1 b3 i v x3 x4 x5 x6 x7) s
def nat_Mul_R0 (b2 : (List Int)) (x : (List Int)) (x1 : Int) : (Int × (List Int)) → T ((Int × (List Int)) ⊕ ((List Int)))
 | (x2,xs) =>
 .ite (decide (x2 < x1))
  (.obl (idxOk x2 x.length) <|
 .obl (curOk xs.length (0 : Nat) xs.length xs.length) <|
 .obl (xs.length = xs.length) <|
 T.bind (nat_Mul_L1 b2 x2 (nth x x2 (dflt (.int .u32))) x x1 x2 b2 (Nat.cast b2.length : Int) ((0 : Int),((0 : Int),xs))) fun (carry1,xs2) =>
 .obl (idxOk (w64 (x2 + (Nat.cast b2.length : Int))) xs2.length) <|
 .obl (eOk xs2.length xs2.length ((0 : Nat) + (Int.toNat (w64 (x2 + (Nat.cast b2.length : Int))))) xs2.length) <|
 .obl (curOk xs2.length (0 : Nat) xs2.length (List.length (List.set xs2 ((0 : Nat) + (Int.toNat (w64 (x2 + (Nat.cast b2.length : Int))))) (wu32 carry1)))) <|
 .obl (xs2.length = (List.length (List.set xs2 ((0 : Nat) + (Int.toNat (w64 (x2 + (Nat.cast b2.length : Int))))) (wu32 carry1)))) <|
 .ret (.inl ((w64 (x2 + 1)),(List.set xs2 ((0 : Nat) + (Int.toNat (w64 (x2 + (Nat.cast b2.length : Int))))) (wu32 carry1)))))
  (.obl (curOk xs.length (0 : Nat) xs.length xs.length) <|
 .obl (xs.length = xs.length) <|
 .ret (.inr xs))
def nat_Mul_L0 (b2 : (List Int)) (x : (List Int)) (x1 : Int) (s : (Int × (List Int))) : T ((List Int)) := T.loop (nat_Mul_R0 b2 x x1) s
def nat_Mul (a : (List Int)) (b : (List Int)) : T (List Int) :=
 T.bind (nat_trim a) fun a1 =>
 T.bind (nat_trim b) fun b1 =>
 .obl (mkOk (w64 ((Nat.cast a1.length : Int) + (Nat.cast b1.length : Int))) (w64 ((Nat.cast a1.length : Int) + (Nat.cast b1.length : Int))) (4 : Nat)) <|
 .obl (curOk (Int.toNat (w64 ((Nat.cast a1.length : Int) + (Nat.cast b1.length : Int)))) (0 : Nat) (Int.toNat (w64 ((Nat.cast a1.length : Int) + (Nat.cast b1.length : Int)))) (List.length (List.replicate (Int.toNat (w64 ((Nat.cast a1.length : Int) + (Nat.cast b1.length : Int)))) (0 : Int)))) <|
 .obl ((Int.toNat (w64 ((Nat.cast a1.length : Int) + (Nat.cast b1.length : Int)))) = (List.length (List.replicate (Int.toNat (w64 ((Nat.cast a1.length : Int) + (Nat.cast b1.length : Int)))) (0 : Int)))) <|
 T.bind (nat_Mul_L0 b1 a1 (Nat.cast a1.length : Int) ((0 : Int),(List.replicate (Int.toNat (w64 ((Nat.cast a1.length : Int) + (Nat.cast b1.length : Int)))) (0 : Int)))) fun xs3 =>
 .obl (xs3.length = xs3.length) <|
 T.bind (nat_trim (List.drop (0 : Nat) (List.take ((0 : Nat) + xs3.length) xs3))) fun r =>
 .ret r
def dec_ten_R0 (x : Int) : ((List Int) × Int) → T (((List Int) × Int) ⊕ ((List Int)))
 | (a1,x1) =>
 .ite (decide (x1 < x))
  (T.bind (nat_Of (10 : Int)) fun r =>
 T.bind (nat_Mul a1 r) fun a2 =>
 .ret (.inl (a2,(w64 (x1 + 1)))))
  (.ret (.inr a1))
def dec_ten_L0 (x : Int) (s : ((List Int) × Int)) : T ((List Int)) := T.loop (dec_ten_R0 x) s
def dec_ten (n : Int) : T (List Int) :=
 T.bind (nat_Of (1 : Int)) fun a =>
 T.bind (dec_ten_L0 n (a,(0 : Int))) fun a3 =>
 .ret a3
def dec_sign (a : Rat) : T Str :=
 .ite a.1
  (.ret ([45] : Str))
  (.ret ([] : Str))
def slices_Reverse_sl_byte_S_R0  : ((Nat × Nat) × Int × Int × (List Int)) → T (((Nat × Nat) × Int × Int × (List Int)) ⊕ ((List Int)))
 | (s1,i,j,xs) =>
 .ite (decide (i < j))
  (.obl (idxOk j s1.2) <|
 .obl (eOk xs.length xs.length (s1.1 + (Int.toNat j)) xs.length) <|
 .obl (idxOk i s1.2) <|
 .obl (eOk xs.length xs.length (s1.1 + (Int.toNat i)) xs.length) <|
 .obl (idxOk i s1.2) <|
 .obl (eOk xs.length xs.length (s1.1 + (Int.toNat i)) xs.length) <|
 .obl (idxOk j s1.2) <|
 .obl (eOk xs.length xs.length (s1.1 + (Int.toNat j)) (List.length (List.set xs (s1.1 + (Int.toNat i)) (nthN xs (s1.1 + (Int.toNat j)) (dflt (.int .u8)))))) <|
 .obl (xs.length = xs.length) <|
 .obl (xs.length = (List.length (List.set (List.set xs (s1.1 + (Int.toNat i)) (nthN xs (s1.1 + (Int.toNat j)) (dflt (.int .u8)))) (s1.1 + (Int.toNat j)) (nthN xs (s1.1 + (Int.toNat i)) (dflt (.int .u8)))))) <|
 .ret (.inl (s1,((w64 (i + 1)),((w64 (j - 1)),(List.set (List.set xs (s1.1 + (Int.toNat i)) (nthN xs (s1.1 + (Int.toNat j)) (dflt (.int .u8)))) (s1.1 + (Int.toNat j)) (nthN xs (s1.1 + (Int.toNat i)) (dflt (.int .u8)))))))))
  (.obl (xs.length = xs.length) <|
 .ret (.inr xs))
def slices_Reverse_sl_byte_S_L0  (s : ((Nat × Nat) × Int × Int × (List Int))) : T ((List Int)) := T.loop (slices_Reverse_sl_byte_S_R0 ) s
def slices_Reverse_sl_byte_S (sw : (Nat × Nat)) (s : (List Int)) : T (List Int) :=
 .obl (s.length = s.length) <|
 .obl (s.length = s.length) <|
 T.bind (slices_Reverse_sl_byte_S_L0  (sw,((0 : Int),((w64 ((Nat.cast sw.2 : Int) - (1 : Int))),s)))) fun xs1 =>
 .obl (xs1.length = xs1.length) <|
 .ret xs1
def nat_Print_R1 (q1 : (List Int)) : (Int × Int × (List Int)) → T ((Int × Int × (List Int)) ⊕ ((List Int)))
 | (rest1,x,xs1) =>
 .ite (decide (x < (9 : Int)))
  (.obl ((10 : Int) ≠ (0 : Int)) <|
 .obl (idxOk (Int.tmod rest1 (10 : Int)) (List.length ([48,49,50,51,52,53,54,55,56,57] : Str))) <|
 .obl (appOk xs1.length xs1.length (0 : Nat) xs1.length xs1.length (1 : Nat) (1 : Nat)) <|
 .obl ((10 : Int) ≠ (0 : Int)) <|
 .obl (curOk (xs1.length + (1 : Nat)) (0 : Nat) (xs1.length + (1 : Nat)) (List.length (xs1 ++ ([(byteAt ([48,49,50,51,52,53,54,55,56,57] : Str) (Int.tmod rest1 (10 : Int)))] : List Int)))) <|
 .obl ((xs1.length + (1 : Nat)) = (List.length (xs1 ++ ([(byteAt ([48,49,50,51,52,53,54,55,56,57] : Str) (Int.tmod rest1 (10 : Int)))] : List Int)))) <|
 .ret (.inl ((wu32 (Int.tdiv rest1 (10 : Int))),((w64 (x + 1)),(xs1 ++ ([(byteAt ([48,49,50,51,52,53,54,55,56,57] : Str) (Int.tmod rest1 (10 : Int)))] : List Int))))))
  (.obl (curOk xs1.length (0 : Nat) xs1.length xs1.length) <|
 .obl (xs1.length = xs1.length) <|
 .ret (.inr xs1))
def nat_Print_L1 (q1 : (List Int)) (s : (Int × Int × (List Int))) : T ((List Int)) := T.loop (nat_Print_R1 q1) s
def nat_Print_R0  : ((List Int) × (List Int)) → T (((List Int) × (List Int)) ⊕ ((List Int)))
 | (a2,xs) =>
 .ite (decide ((0 : Int) < (Nat.cast a2.length : Int)))
  (T.bind (nat_small a2 (1000000000 : Int)) fun (q,rest) =>
 .obl (curOk xs.length (0 : Nat) xs.length xs.length) <|
 .obl (xs.length = xs.length) <|
 T.bind (nat_Print_L1 q (rest,((0 : Int),xs))) fun xs2 =>
 .obl (curOk xs2.length (0 : Nat) xs2.length xs2.length) <|
 .obl (xs2.length = xs2.length) <|
 .ret (.inl (q,xs2)))
  (.obl (curOk xs.length (0 : Nat) xs.length xs.length) <|
 .obl (xs.length = xs.length) <|
 .ret (.inr xs))
def nat_Print_L0  (s : ((List Int) × (List Int))) : T ((List Int)) := T.loop (nat_Print_R0 ) s
def nat_Print_R2  : ((Nat × Nat) × (List Int)) → T (((Nat × Nat) × (List Int)) ⊕ (((Nat × Nat) × (List Int))))
 | (b,xs4) =>
 .obl (((decide ((1 : Int) < (Nat.cast b.2 : Int))) = true) → ((idxOk (w64 ((Nat.cast b.2 : Int) - (1 : Int))) b.2) ∧ (eOk xs4.length xs4.length (b.1 + (Int.toNat (w64 ((Nat.cast b.2 : Int) - (1 : Int))))) xs4.length))) <|
 .ite ((decide ((1 : Int) < (Nat.cast b.2 : Int))) && ((nthN xs4 (b.1 + (Int.toNat (w64 ((Nat.cast b.2 : Int) - (1 : Int))))) (dflt (.int .u8))) == 48))
  (.obl (slOk (0 : Int) (w64 ((Nat.cast b.2 : Int) - (1 : Int))) b.2) <|
 .obl (xs4.length = xs4.length) <|
 .obl (xs4.length = xs4.length) <|
 .ret (.inl (((b.1 + (Int.toNat (0 : Int))),((Int.toNat (w64 ((Nat.cast b.2 : Int) - (1 : Int)))) - (Int.toNat (0 : Int)))),xs4)))
  (.obl (xs4.length = xs4.length) <|
 .obl (xs4.length = xs4.length) <|
 .ret (.inr (b,xs4)))
def nat_Print_L2  (s : ((Nat × Nat) × (List Int))) : T (((Nat × Nat) × (List Int))) := T.loop (nat_Print_R2 ) s
def nat_Print (a : (List Int)) : T Str :=
 T.bind (nat_Trim a) fun a1 =>
 .ite ((Nat.cast a1.length : Int) == (0 : Int))
  (.ret ([48] : Str))
  (.obl (curOk (0 : Nat) (0 : Nat) (0 : Nat) (0 : Nat)) <|
 .obl ((0 : Nat) = (0 : Nat)) <|
 T.bind (nat_Print_L0  (a1,([] : List Int))) fun xs3 =>
 .obl (xs3.length = xs3.length) <|
 .obl (xs3.length = xs3.length) <|
 T.bind (nat_Print_L2  (((0 : Nat),xs3.length),xs3)) fun (b1,xs5) =>
 .obl (xs5.length = xs5.length) <|
 .obl (xs5.length = xs5.length) <|
 T.bind (slices_Reverse_sl_byte_S b1 xs5) fun b2 =>
 .obl (xs5.length = b2.length) <|
 .ret (bytesStr (List.drop b1.1 (List.take (b1.1 + b1.2) b2))))
def strings_Repeat (s : Str) (count : Int) : T Str :=
 .obl ((0 : Int) ≤ count ∧ count ≤ (9223372036854775807 : Int) ∧ s.length * (Int.toNat count) ≤ (140737488355328 : Nat)) <|
 .ret (repS s (Int.toNat count))
def dec_pointed (s : Str) (n : Int) : T Str :=
 .ite (n == 0)
  (.ret s)
  (T.bind (strings_Repeat ([48] : Str) (maxI (0 : Int) (w64 ((w64 (n + 1)) - (Nat.cast s.length : Int))))) fun r =>
 .obl ((r.length + s.length) ≤ (4611686018427387904 : Nat)) <|
 .obl (slOk (0 : Int) (w64 ((Nat.cast (List.length (cat r s)) : Int) - n)) (List.length (cat r s))) <|
 .obl (((List.length (cutS (0 : Int) (w64 ((Nat.cast (List.length (cat r s)) : Int) - n)) (cat r s))) + (List.length ([46] : Str))) ≤ (4611686018427387904 : Nat)) <|
 .obl (slOk (w64 ((Nat.cast (List.length (cat r s)) : Int) - n)) (Nat.cast (List.length (cat r s)) : Int) (List.length (cat r s))) <|
 .obl (((List.length (cat (cutS (0 : Int) (w64 ((Nat.cast (List.length (cat r s)) : Int) - n)) (cat r s)) ([46] : Str))) + (List.length (cutS (w64 ((Nat.cast (List.length (cat r s)) : Int) - n)) (Nat.cast (List.length (cat r s)) : Int) (cat r s)))) ≤ (4611686018427387904 : Nat)) <|
 .ret (cat (cat (cutS (0 : Int) (w64 ((Nat.cast (List.length (cat r s)) : Int) - n)) (cat r s)) ([46] : Str)) (cutS (w64 ((Nat.cast (List.length (cat r s)) : Int) - n)) (Nat.cast (List.length (cat r s)) : Int) (cat r s))))
def dec_Exact_R0  : (Int × Rat) → T ((Int × Rat) ⊕ (Rat ⊕ (Str × Bool × Rat)))
 | (x,v) =>
 .ite (decide (x < (61 : Int)))
  (T.bind (dec_ten x) fun r1 =>
 T.bind (nat_Mul v.2.1 r1) fun r2 =>
 T.bind (nat_DivMod r2 v.2.2.1) fun (q,r3,r4) =>
 .ite ((Nat.cast r3.length : Int) == (0 : Int))
  (T.bind (dec_sign v) fun r5 =>
 T.bind (nat_Print q) fun r6 =>
 T.bind (dec_pointed r6 x) fun r7 =>
 .obl ((r5.length + r7.length) ≤ (4611686018427387904 : Nat)) <|
 .ret (.inr (.inr ((cat r5 r7),(true,v)))))
  (.ret (.inl ((w64 (x + 1)),v))))
  (.ret (.inr (.inl v)))
def dec_Exact_L0  (s : (Int × Rat)) : T (Rat ⊕ (Str × Bool × Rat)) := T.loop (dec_Exact_R0 ) s
def dec_Exact (a : Rat) : T (Str × Bool) :=
 T.bind (rat_Norm a) fun r =>
 T.bind (dec_Exact_L0  ((0 : Int),r)) <|
 Sum.elim (fun v1 =>
 .ret (([] : Str),false))
  (fun (x1,x2,v2) =>
 .ret (x1,x2))
def expr_isNum (a : Rat) : T Bool :=
 T.bind (T.bind (rat_Is a) fun r =>
 .ite (!r)
  (.ret true)
  (.ite a.1
  (.ret true)
  (T.bind (rat_Large a) fun r1 =>
 .ret r1)) : T (Bool)) fun x =>
 .ite x
  (.ret false)
  (T.bind (dec_Exact a) fun (r2,ok) =>
 .ret ok)
def expr_isNone (a : Rat) : T Bool :=
 .ite (!a.1)
  (.ite ((Nat.cast a.2.1.length : Int) == (0 : Int))
  (.ite ((Nat.cast a.2.2.1.length : Int) == (0 : Int))
  (.ret true)
  (T.bind (rat_Is a) fun r =>
 .ret r))
  (.ret false))
  (.ret false)
def expr_isLetter (c : Int) : T Bool :=
 .ret ((decide ((97 : Int) ≤ c)) && (decide (c ≤ (122 : Int))))
def expr_isDigit (c : Int) : T Bool :=
 .ret ((decide ((48 : Int) ≤ c)) && (decide (c ≤ (57 : Int))))
def expr_isInner (c : Int) : T Bool :=
 T.bind (expr_isLetter c) fun r =>
 .ite r
  (.ret true)
  (T.bind (expr_isDigit c) fun r1 =>
 .ite r1
  (.ret true)
  (.ret (c == 95)))
def expr_Name_R0 (s1 : Str) (x1 : Int) : Int → T (Int ⊕ (Unit ⊕ Bool))
 | x2 =>
 .ite (decide (x2 < x1))
  (.obl (idxOk x2 s1.length) <|
 T.bind (expr_isInner (byteAt s1 x2)) fun r1 =>
 .ite (!r1)
  (.ret (.inr (.inr false)))
  (.ret (.inl (w64 (x2 + 1)))))
  (.ret (.inr (.inl ())))
def expr_Name_L0 (s1 : Str) (x1 : Int) (s : Int) : T (Unit ⊕ Bool) := T.loop (expr_Name_R0 s1 x1) s
def expr_Name (s : Str) : T Bool :=
 T.bind (.ite (strEq s ([] : Str))
  (.ret true)
  (.ite (decide ((24 : Int) < (Nat.cast s.length : Int)))
  (.ret true)
  (.obl (idxOk (0 : Int) s.length) <|
 T.bind (expr_isLetter (byteAt s (0 : Int))) fun r =>
 .ret (!r))) : T (Bool)) fun x =>
 .ite x
  (.ret false)
  (T.bind (expr_Name_L0 s (Nat.cast s.length : Int) (0 : Int)) <|
 Sum.elim (fun _ =>
 .ret true)
  (fun x3 =>
 .ret x3))
def expr_isNode (e : AM.Expr) : T Bool :=
 T.bind (expr_kids (Expr.kind e)) fun r =>
 .ite ((Nat.cast (List.length (Expr.kids e)) : Int) != r)
  (.ret false)
  (.ite ((Expr.kind e) == 1)
  (T.bind (expr_isNum (Expr.num e)) fun r1 =>
 .ite r1
  (.ret (strEq (Expr.name e) ([] : Str)))
  (.ret false))
  (.ite ((Expr.kind e) == 2)
  (T.bind (expr_isNone (Expr.num e)) fun r2 =>
 .ite r2
  (T.bind (expr_Name (Expr.name e)) fun r3 =>
 .ret r3)
  (.ret false))
  (T.bind (expr_isNone (Expr.num e)) fun r4 =>
 .ite r4
  (.ret (strEq (Expr.name e) ([] : Str)))
  (.ret false))))
def expr_may_f1_S (self_expr_may : AM.Expr → Int → Int → T (Bool × Int)) (k : AM.Expr) (a1 : Int) (v : Int) : T (Bool × Int) :=
 T.bind (self_expr_may k (w64 (a1 + 1)) v) fun (r,xs) =>
 .ret ((!r),xs)
def slices_IndexFunc_sl_Expr_expr_may_f1_S_R0 (self_expr_may : AM.Expr → Int → Int → T (Bool × Int)) (s1 : (List AM.Expr)) (x : Int) : ((Int × Unit) × Int × Int) → T (((Int × Unit) × Int × Int) ⊕ (Int ⊕ (Int × Int)))
 | (f1,x1,v1) =>
 .ite (decide (x1 < x))
  (.obl (idxOk x1 s1.length) <|
 T.bind ((expr_may_f1_S self_expr_may) (nth s1 x1 (dflt .expr)) f1.1 v1) fun (r,xs) =>
 .ite r
  (.ret (.inr (.inr (x1,xs))))
  (.ret (.inl ((f1.1,()),((w64 (x1 + 1)),xs)))))
  (.ret (.inr (.inl v1)))
def slices_IndexFunc_sl_Expr_expr_may_f1_S_L0 (self_expr_may : AM.Expr → Int → Int → T (Bool × Int)) (s1 : (List AM.Expr)) (x : Int) (s : ((Int × Unit) × Int × Int)) : T (Int ⊕ (Int × Int)) := T.loop (slices_IndexFunc_sl_Expr_expr_may_f1_S_R0 self_expr_may s1 x) s
def slices_IndexFunc_sl_Expr_expr_may_f1_S (self_expr_may : AM.Expr → Int → Int → T (Bool × Int)) (s : (List AM.Expr)) (f : (Int × Unit)) (v : Int) : T (Int × Int) :=
 T.bind (slices_IndexFunc_sl_Expr_expr_may_f1_S_L0 self_expr_may s (Nat.cast s.length : Int) ((f.1,()),((0 : Int),v))) <|
 Sum.elim (fun v2 =>
 .ret ((-1 : Int),v2))
  (fun (x2,v3) =>
 .ret (x2,v3))
def slices_ContainsFunc_sl_Expr_expr_may_f1_S (self_expr_may : AM.Expr → Int → Int → T (Bool × Int)) (s : (List AM.Expr)) (f : (Int × Unit)) (v : Int) : T (Bool × Int) :=
 T.bind ((slices_IndexFunc_sl_Expr_expr_may_f1_S self_expr_may) s (f.1,()) v) fun (r,xs) =>
 .ret ((decide ((0 : Int) ≤ r)),xs)
def expr_may_S_B (self_expr_may : AM.Expr → Int → Int → T (Bool × Int)) (e : AM.Expr) (deep : Int) (left : Int) : T (Bool × Int) :=
 T.bind (.ite (decide ((w64 (left - 1)) < (0 : Int)))
  (.ret (true,(w64 (left - 1))))
  (.ite (decide ((32 : Int) ≤ deep))
  (.ret (true,(w64 (left - 1))))
  (T.bind (expr_isNode e) fun r =>
 .ret ((!r),(w64 (left - 1))))) : T ((Bool × Int))) fun (x,v) =>
 .ite x
  (.ret (false,v))
  (T.bind ((slices_ContainsFunc_sl_Expr_expr_may_f1_S self_expr_may) (Expr.kids e) (deep,()) v) fun (r1,left1) =>
 .ret ((!r1),left1))
def expr_may_S (e : AM.Expr) (deep : Int) (left : Int) : T (Bool × Int) := T.fix (fun F x => expr_may_S_B (fun y0 y1 y2 => F (y0,y1,y2)) x.1 x.2.1 x.2.2) (e,deep,left)
def expr_Is (e : AM.Expr) : T Bool :=
 T.bind (expr_may_S e (0 : Int) (256 : Int)) fun (r,left) =>
 .ret r
def expr_binds (e : AM.Expr) : T Int :=
 .ite (bif ((Expr.kind e) == 3) then ((Expr.kind e) == 3) else ((Expr.kind e) == 4))
  (.ret (1 : Int))
  (.ite (bif ((Expr.kind e) == 5) then ((Expr.kind e) == 5) else ((Expr.kind e) == 6))
  (.ret (2 : Int))
  (.ite ((Expr.kind e) == 7)
  (.ret (3 : Int))
  (.ret (4 : Int))))
def expr_placed (self_expr_print : AM.Expr → T Str) (e : AM.Expr) (least : Int) : T Str :=
 T.bind (expr_binds e) fun r =>
 .ite (decide (r < least))
  (T.bind (self_expr_print e) fun r1 =>
 .obl (((List.length ([40] : Str)) + r1.length) ≤ (4611686018427387904 : Nat)) <|
 .obl (((List.length (cat ([40] : Str) r1)) + (List.length ([41] : Str))) ≤ (4611686018427387904 : Nat)) <|
 .ret (cat (cat ([40] : Str) r1) ([41] : Str)))
  (T.bind (self_expr_print e) fun r2 =>
 .ret r2)
def expr_print_B (self_expr_print : AM.Expr → T Str) (e : AM.Expr) : T Str :=
 T.bind (.ite ((Expr.kind e) == 1)
  (T.bind (dec_Exact (Expr.num e)) fun (s,r) =>
 .ret (.inr s))
  (.ite ((Expr.kind e) == 2)
  (.ret (.inr (Expr.name e)))
  (.ite ((Expr.kind e) == 7)
  (.obl (idxOk (0 : Int) (List.length (Expr.kids e))) <|
 T.bind ((expr_placed self_expr_print) (nth (Expr.kids e) (0 : Int) (dflt .expr)) (3 : Int)) fun r1 =>
 .obl (((List.length ([45] : Str)) + r1.length) ≤ (4611686018427387904 : Nat)) <|
 .ret (.inr (cat ([45] : Str) r1)))
  (.ite ((Expr.kind e) == 3)
  (.ret (.inl ([32,43,32] : Str)))
  (.ite ((Expr.kind e) == 4)
  (.ret (.inl ([32,45,32] : Str)))
  (.ite ((Expr.kind e) == 5)
  (.ret (.inl ([32,42,32] : Str)))
  (.ite ((Expr.kind e) == 6)
  (.ret (.inl ([32,47,32] : Str)))
  (.ret (.inl ([] : Str))))))))) : T (Str ⊕ Str)) <|
 Sum.elim (fun mark =>
 .obl (idxOk (0 : Int) (List.length (Expr.kids e))) <|
 T.bind (expr_binds e) fun r2 =>
 T.bind ((expr_placed self_expr_print) (nth (Expr.kids e) (0 : Int) (dflt .expr)) r2) fun r3 =>
 .obl ((r3.length + mark.length) ≤ (4611686018427387904 : Nat)) <|
 .obl (idxOk (1 : Int) (List.length (Expr.kids e))) <|
 T.bind (expr_binds e) fun r4 =>
 T.bind ((expr_placed self_expr_print) (nth (Expr.kids e) (1 : Int) (dflt .expr)) (w64 (r4 + 1))) fun r5 =>
 .obl (((List.length (cat r3 mark)) + r5.length) ≤ (4611686018427387904 : Nat)) <|
 .ret (cat (cat r3 mark) r5))
  (fun x =>
 .ret x)
def expr_print (e : AM.Expr) : T Str := T.fix (fun F x => expr_print_B (fun y0 => F (y0)) x) e
def expr_Print (e : AM.Expr) : T Str :=
 T.bind (expr_Is e) fun r =>
 .ite (!r)
  (.ret ([] : Str))
  (T.bind (expr_print e) fun r1 =>
 .ret r1)
def ref1_Trim_R0 (a1 : (List Int)) : Int → T (Int ⊕ (Int))
 | n =>
 .obl (((decide ((0 : Int) < n)) = true) → (idxOk (w64 (n - 1)) a1.length)) <|
 .ite ((decide ((0 : Int) < n)) && ((nth a1 (w64 (n - 1)) (dflt (.int .u32))) == 0))
  (.ret (.inl (w64 (n - 1))))
  (.ret (.inr n))
def ref1_Trim_L0 (a1 : (List Int)) (s : Int) : T (Int) := T.loop (ref1_Trim_R0 a1) s
def ref1_Trim (a : (List Int)) : T (List Int) :=
 T.bind (ref1_Trim_L0 a (Nat.cast a.length : Int)) fun n1 =>
 .obl (slOk (0 : Int) n1 a.length) <|
 .obl (appOk (0 : Nat) (0 : Nat) (0 : Nat) (0 : Nat) (0 : Nat) (List.length (cutL (e := (.int .u32)) (0 : Int) n1 a)) (4 : Nat)) <|
 .obl (((0 : Nat) + (List.length (cutL (e := (.int .u32)) (0 : Int) n1 a))) = ((0 : Nat) + (List.length (cutL (e := (.int .u32)) (0 : Int) n1 a)))) <|
 .ret (List.drop (0 : Nat) (List.take ((0 : Nat) + ((0 : Nat) + (List.length (cutL (e := (.int .u32)) (0 : Int) n1 a)))) (cutL (e := (.int .u32)) (0 : Int) n1 a)))
def ref1_To_R0 (t1 : (List Int)) : (Int × Int) → T ((Int × Int) ⊕ (Int))
 | (n,i) =>
 .ite (decide ((0 : Int) ≤ i))
  (.obl ((0 : Int) ≤ (32 : Int)) <|
 .obl (idxOk i t1.length) <|
 .ret (.inl ((orI .u64 (shlI .u64 n (32 : Int)) (wu64 (nth t1 i (dflt (.int .u32))))),(w64 (i - 1)))))
  (.ret (.inr n))
def ref1_To_L0 (t1 : (List Int)) (s : (Int × Int)) : T (Int) := T.loop (ref1_To_R0 t1) s
def ref1_To (a : (List Int)) : T (Int × Bool) :=
 T.bind (ref1_Trim a) fun t =>
 .ite (decide ((2 : Int) < (Nat.cast t.length : Int)))
  (.ret ((0 : Int),false))
  (T.bind (ref1_To_L0 t ((0 : Int),(w64 ((Nat.cast t.length : Int) - (1 : Int))))) fun n1 =>
 .ret (n1,true))
def ref1_Of (n : Int) : T (List Int) :=
 .obl ((0 : Int) ≤ (32 : Int)) <|
 T.bind (ref1_Trim ([(wu32 n),(wu32 (shrI .u64 n (32 : Int)))] : List Int)) fun r =>
 .ret r
def ref1_small_R0 (a1 : (List Int)) (by_1 : Int) : (Int × Int × (List Int)) → T ((Int × Int × (List Int)) ⊕ ((Int × (List Int))))
 | (r,i,xs) =>
 .ite (decide ((0 : Int) ≤ i))
  (.obl ((0 : Int) ≤ (32 : Int)) <|
 .obl (idxOk i a1.length) <|
 .obl (by_1 ≠ (0 : Int)) <|
 .obl (idxOk i xs.length) <|
 .obl (eOk xs.length xs.length ((0 : Nat) + (Int.toNat i)) xs.length) <|
 .obl (by_1 ≠ (0 : Int)) <|
 .obl (curOk xs.length (0 : Nat) xs.length (List.length (List.set xs ((0 : Nat) + (Int.toNat i)) (wu32 (wu64 (Int.tdiv (orI .u64 (shlI .u64 r (32 : Int)) (wu64 (nth a1 i (dflt (.int .u32))))) by_1)))))) <|
 .obl (xs.length = (List.length (List.set xs ((0 : Nat) + (Int.toNat i)) (wu32 (wu64 (Int.tdiv (orI .u64 (shlI .u64 r (32 : Int)) (wu64 (nth a1 i (dflt (.int .u32))))) by_1)))))) <|
 .ret (.inl ((Int.tmod (orI .u64 (shlI .u64 r (32 : Int)) (wu64 (nth a1 i (dflt (.int .u32))))) by_1),((w64 (i - 1)),(List.set xs ((0 : Nat) + (Int.toNat i)) (wu32 (wu64 (Int.tdiv (orI .u64 (shlI .u64 r (32 : Int)) (wu64 (nth a1 i (dflt (.int .u32))))) by_1))))))))
  (.obl (curOk xs.length (0 : Nat) xs.length xs.length) <|
 .obl (xs.length = xs.length) <|
 .ret (.inr (r,xs)))
def ref1_small_L0 (a1 : (List Int)) (by_1 : Int) (s : (Int × Int × (List Int))) : T ((Int × (List Int))) := T.loop (ref1_small_R0 a1 by_1) s
def ref1_small (a : (List Int)) (by_ : Int) : T ((List Int) × Int) :=
 .obl (mkOk (Nat.cast a.length : Int) (Nat.cast a.length : Int) (4 : Nat)) <|
 .obl (curOk (Int.toNat (Nat.cast a.length : Int)) (0 : Nat) (Int.toNat (Nat.cast a.length : Int)) (List.length (List.replicate (Int.toNat (Nat.cast a.length : Int)) (0 : Int)))) <|
 .obl ((Int.toNat (Nat.cast a.length : Int)) = (List.length (List.replicate (Int.toNat (Nat.cast a.length : Int)) (0 : Int)))) <|
 T.bind (ref1_small_L0 a by_ ((0 : Int),((w64 ((Nat.cast a.length : Int) - (1 : Int))),(List.replicate (Int.toNat (Nat.cast a.length : Int)) (0 : Int))))) fun (r1,xs1) =>
 .obl (xs1.length = xs1.length) <|
 T.bind (ref1_Trim (List.drop (0 : Nat) (List.take ((0 : Nat) + xs1.length) xs1))) fun r2 =>
 .ret (r2,r1)
def ref1_at (a : (List Int)) (i : Int) : T Int :=
 .ite (decide (i < (Nat.cast a.length : Int)))
  (.obl (idxOk i a.length) <|
 .ret (wu64 (nth a i (dflt (.int .u32)))))
  (.ret (0 : Int))
def ref1_Shift_R0 (t1 : (List Int)) (by_ : Int) : (Int × (List Int)) → T ((Int × (List Int)) ⊕ ((List Int)))
 | (i,xs) =>
 .ite (decide (i < (Nat.cast t1.length : Int)))
  (T.bind (ref1_at t1 i) fun r =>
 T.bind (ref1_at t1 (w64 (i + 1))) fun r1 =>
 .obl ((0 : Int) ≤ (32 : Int)) <|
 .obl ((0 : Int) ≤ by_) <|
 .obl (appOk xs.length xs.length (0 : Nat) xs.length xs.length (1 : Nat) (4 : Nat)) <|
 .obl (curOk (xs.length + (1 : Nat)) (0 : Nat) (xs.length + (1 : Nat)) (List.length (xs ++ ([(wu32 (shrI .u64 (orI .u64 r (shlI .u64 r1 (32 : Int))) by_))] : List Int)))) <|
 .obl ((xs.length + (1 : Nat)) = (List.length (xs ++ ([(wu32 (shrI .u64 (orI .u64 r (shlI .u64 r1 (32 : Int))) by_))] : List Int)))) <|
 .ret (.inl ((w64 (i + 1)),(xs ++ ([(wu32 (shrI .u64 (orI .u64 r (shlI .u64 r1 (32 : Int))) by_))] : List Int)))))
  (.obl (curOk xs.length (0 : Nat) xs.length xs.length) <|
 .obl (xs.length = xs.length) <|
 .ret (.inr xs))
def ref1_Shift_L0 (t1 : (List Int)) (by_ : Int) (s : (Int × (List Int))) : T ((List Int)) := T.loop (ref1_Shift_R0 t1 by_) s
def ref1_Shift_R1 (t2 : (List Int)) (by_1 : Int) : (Int × Int × (List Int)) → T ((Int × Int × (List Int)) ⊕ ((List Int)))
 | (low,i1,xs2) =>
 .ite (decide (i1 < (w64 ((Nat.cast t2.length : Int) + (1 : Int)))))
  (T.bind (ref1_at t2 i1) fun r3 =>
 .obl ((0 : Int) ≤ by_1) <|
 .obl (appOk xs2.length xs2.length (0 : Nat) xs2.length xs2.length (1 : Nat) (4 : Nat)) <|
 .obl ((0 : Int) ≤ (32 : Int)) <|
 .obl (curOk (xs2.length + (1 : Nat)) (0 : Nat) (xs2.length + (1 : Nat)) (List.length (xs2 ++ ([(wu32 (orI .u64 (shlI .u64 r3 by_1) low))] : List Int)))) <|
 .obl ((xs2.length + (1 : Nat)) = (List.length (xs2 ++ ([(wu32 (orI .u64 (shlI .u64 r3 by_1) low))] : List Int)))) <|
 .ret (.inl ((shrI .u64 (shlI .u64 r3 by_1) (32 : Int)),((w64 (i1 + 1)),(xs2 ++ ([(wu32 (orI .u64 (shlI .u64 r3 by_1) low))] : List Int))))))
  (.obl (curOk xs2.length (0 : Nat) xs2.length xs2.length) <|
 .obl (xs2.length = xs2.length) <|
 .ret (.inr xs2))
def ref1_Shift_L1 (t2 : (List Int)) (by_1 : Int) (s : (Int × Int × (List Int))) : T ((List Int)) := T.loop (ref1_Shift_R1 t2 by_1) s
def ref1_Shift (a : (List Int)) (n : Int) : T (List Int) :=
 T.bind (ref1_Trim a) fun t =>
 .ite (decide ((minI (maxI n (-4096 : Int)) (4096 : Int)) < (0 : Int)))
  (.obl ((32 : Int) ≠ (0 : Int)) <|
 .ite (decide ((Nat.cast t.length : Int) ≤ (w64 (Int.tdiv (w64 ((0 : Int) - (minI (maxI n (-4096 : Int)) (4096 : Int)))) (32 : Int)))))
  (.ret ([] : List Int))
  (.obl (slOk (w64 (Int.tdiv (w64 ((0 : Int) - (minI (maxI n (-4096 : Int)) (4096 : Int)))) (32 : Int))) (Nat.cast t.length : Int) t.length) <|
 .obl ((32 : Int) ≠ (0 : Int)) <|
 .obl (curOk (0 : Nat) (0 : Nat) (0 : Nat) (0 : Nat)) <|
 .obl ((0 : Nat) = (0 : Nat)) <|
 T.bind (ref1_Shift_L0 (cutL (e := (.int .u32)) (w64 (Int.tdiv (w64 ((0 : Int) - (minI (maxI n (-4096 : Int)) (4096 : Int)))) (32 : Int))) (Nat.cast t.length : Int) t) (wu64 (Int.tmod (w64 ((0 : Int) - (minI (maxI n (-4096 : Int)) (4096 : Int)))) (32 : Int))) ((0 : Int),([] : List Int))) fun xs1 =>
 .obl (xs1.length = xs1.length) <|
 T.bind (ref1_Trim (List.drop (0 : Nat) (List.take ((0 : Nat) + xs1.length) xs1))) fun r2 =>
 .ret r2))
  (.obl ((32 : Int) ≠ (0 : Int)) <|
 .obl (mkOk (w64 (Int.tdiv (minI (maxI n (-4096 : Int)) (4096 : Int)) (32 : Int))) (w64 (Int.tdiv (minI (maxI n (-4096 : Int)) (4096 : Int)) (32 : Int))) (4 : Nat)) <|
 .obl ((32 : Int) ≠ (0 : Int)) <|
 .obl (curOk (Int.toNat (w64 (Int.tdiv (minI (maxI n (-4096 : Int)) (4096 : Int)) (32 : Int)))) (0 : Nat) (Int.toNat (w64 (Int.tdiv (minI (maxI n (-4096 : Int)) (4096 : Int)) (32 : Int)))) (List.length (List.replicate (Int.toNat (w64 (Int.tdiv (minI (maxI n (-4096 : Int)) (4096 : Int)) (32 : Int)))) (0 : Int)))) <|
 .obl ((Int.toNat (w64 (Int.tdiv (minI (maxI n (-4096 : Int)) (4096 : Int)) (32 : Int)))) = (List.length (List.replicate (Int.toNat (w64 (Int.tdiv (minI (maxI n (-4096 : Int)) (4096 : Int)) (32 : Int)))) (0 : Int)))) <|
 T.bind (ref1_Shift_L1 t (wu64 (Int.tmod (minI (maxI n (-4096 : Int)) (4096 : Int)) (32 : Int))) ((0 : Int),((0 : Int),(List.replicate (Int.toNat (w64 (Int.tdiv (minI (maxI n (-4096 : Int)) (4096 : Int)) (32 : Int)))) (0 : Int))))) fun xs3 =>
 .obl (xs3.length = xs3.length) <|
 T.bind (ref1_Trim (List.drop (0 : Nat) (List.take ((0 : Nat) + xs3.length) xs3))) fun r4 =>
 .ret r4)
def ref1_Add_R0 (a1 : (List Int)) (b1 : (List Int)) : (Int × Int × (List Int)) → T ((Int × Int × (List Int)) ⊕ ((List Int)))
 | (c,i,xs) =>
 .ite (decide (i < (w64 ((maxI (Nat.cast a1.length : Int) (Nat.cast b1.length : Int)) + 1))))
  (T.bind (ref1_at a1 i) fun r =>
 T.bind (ref1_at b1 i) fun r1 =>
 .obl (appOk xs.length xs.length (0 : Nat) xs.length xs.length (1 : Nat) (4 : Nat)) <|
 .obl ((0 : Int) ≤ (32 : Int)) <|
 .obl (curOk (xs.length + (1 : Nat)) (0 : Nat) (xs.length + (1 : Nat)) (List.length (xs ++ ([(wu32 (wu64 ((wu64 (c + r)) + r1)))] : List Int)))) <|
 .obl ((xs.length + (1 : Nat)) = (List.length (xs ++ ([(wu32 (wu64 ((wu64 (c + r)) + r1)))] : List Int)))) <|
 .ret (.inl ((shrI .u64 (wu64 ((wu64 (c + r)) + r1)) (32 : Int)),((w64 (i + 1)),(xs ++ ([(wu32 (wu64 ((wu64 (c + r)) + r1)))] : List Int))))))
  (.obl (curOk xs.length (0 : Nat) xs.length xs.length) <|
 .obl (xs.length = xs.length) <|
 .ret (.inr xs))
def ref1_Add_L0 (a1 : (List Int)) (b1 : (List Int)) (s : (Int × Int × (List Int))) : T ((List Int)) := T.loop (ref1_Add_R0 a1 b1) s
def ref1_Add (a : (List Int)) (b : (List Int)) : T (List Int) :=
 .obl (curOk (0 : Nat) (0 : Nat) (0 : Nat) (0 : Nat)) <|
 .obl ((0 : Nat) = (0 : Nat)) <|
 T.bind (ref1_Add_L0 a b ((0 : Int),((0 : Int),([] : List Int)))) fun xs1 =>
 .obl (xs1.length = xs1.length) <|
 T.bind (ref1_Trim (List.drop (0 : Nat) (List.take ((0 : Nat) + xs1.length) xs1))) fun r2 =>
 .ret r2
def ref1_Cmp_R0 (x1 : (List Int)) (y1 : (List Int)) : Int → T (Int ⊕ (Unit ⊕ Int))
 | i =>
 .ite (decide ((0 : Int) ≤ i))
  (.obl (idxOk i x1.length) <|
 .obl (idxOk i y1.length) <|
 .ite (decide ((nth x1 i (dflt (.int .u32))) < (nth y1 i (dflt (.int .u32)))))
  (.ret (.inr (.inr (-1 : Int))))
  (.obl (idxOk i x1.length) <|
 .obl (idxOk i y1.length) <|
 .ite (decide ((nth y1 i (dflt (.int .u32))) < (nth x1 i (dflt (.int .u32)))))
  (.ret (.inr (.inr (1 : Int))))
  (.ret (.inl (w64 (i - 1))))))
  (.ret (.inr (.inl ())))
def ref1_Cmp_L0 (x1 : (List Int)) (y1 : (List Int)) (s : Int) : T (Unit ⊕ Int) := T.loop (ref1_Cmp_R0 x1 y1) s
def ref1_Cmp (a : (List Int)) (b : (List Int)) : T Int :=
 T.bind (ref1_Trim a) fun x =>
 T.bind (ref1_Trim b) fun y =>
 .ite ((Nat.cast x.length : Int) != (Nat.cast y.length : Int))
  (.ite (decide ((Nat.cast x.length : Int) < (Nat.cast y.length : Int)))
  (.ret (-1 : Int))
  (.ret (1 : Int)))
  (T.bind (ref1_Cmp_L0 x y (w64 ((Nat.cast x.length : Int) - (1 : Int)))) <|
 Sum.elim (fun _ =>
 .ret (0 : Int))
  (fun x2 =>
 .ret x2))
def ref1_Sub_R0 (a1 : (List Int)) (b1 : (List Int)) : (Int × Int × (List Int)) → T ((Int × Int × (List Int)) ⊕ ((List Int)))
 | (c,i,xs) =>
 .ite (decide (i < (Nat.cast a1.length : Int)))
  (T.bind (ref1_at a1 i) fun x =>
 T.bind (ref1_at b1 i) fun r1 =>
 .obl (appOk xs.length xs.length (0 : Nat) xs.length xs.length (1 : Nat) (4 : Nat)) <|
 .obl (curOk (xs.length + (1 : Nat)) (0 : Nat) (xs.length + (1 : Nat)) (List.length (xs ++ ([(wu32 (wu64 ((bif (decide (x < (wu64 (r1 + c)))) then (wu64 (x + 4294967296)) else x) - (wu64 (r1 + c)))))] : List Int)))) <|
 .obl ((xs.length + (1 : Nat)) = (List.length (xs ++ ([(wu32 (wu64 ((bif (decide (x < (wu64 (r1 + c)))) then (wu64 (x + 4294967296)) else x) - (wu64 (r1 + c)))))] : List Int)))) <|
 .ret (.inl ((bif (decide (x < (wu64 (r1 + c)))) then (1 : Int) else (0 : Int)),((w64 (i + 1)),(xs ++ ([(wu32 (wu64 ((bif (decide (x < (wu64 (r1 + c)))) then (wu64 (x + 4294967296)) else x) - (wu64 (r1 + c)))))] : List Int))))))
  (.obl (curOk xs.length (0 : Nat) xs.length xs.length) <|
 .obl (xs.length = xs.length) <|
 .ret (.inr xs))
def ref1_Sub_L0 (a1 : (List Int)) (b1 : (List Int)) (s : (Int × Int × (List Int))) : T ((List Int)) := T.loop (ref1_Sub_R0 a1 b1) s
def ref1_Sub (a : (List Int)) (b : (List Int)) : T ((List Int) × Bool) :=
 T.bind (ref1_Cmp a b) fun r =>
 .ite (decide (r < (0 : Int)))
  (.ret (([] : List Int),false))
  (.obl (curOk (0 : Nat) (0 : Nat) (0 : Nat) (0 : Nat)) <|
 .obl ((0 : Nat) = (0 : Nat)) <|
 T.bind (ref1_Sub_L0 a b ((0 : Int),((0 : Int),([] : List Int)))) fun xs1 =>
 .obl (xs1.length = xs1.length) <|
 T.bind (ref1_Trim (List.drop (0 : Nat) (List.take ((0 : Nat) + xs1.length) xs1))) fun r2 =>
 .ret (r2,true))
def ref1_DivMod_R0 (a1 : (List Int)) (b1 : (List Int)) : ((List Int) × Int × (List Int)) → T (((List Int) × Int × (List Int)) ⊕ (((List Int) × (List Int))))
 | (r5,i,xs) =>
 .ite (decide ((0 : Int) ≤ i))
  (T.bind (ref1_Shift r5 (1 : Int)) fun r6 =>
 T.bind (.obl ((32 : Int) ≠ (0 : Int)) <|
 .obl (idxOk (w64 (Int.tdiv i (32 : Int))) a1.length) <|
 .obl ((32 : Int) ≠ (0 : Int)) <|
 .obl ((0 : Int) ≤ (wu64 (Int.tmod i (32 : Int)))) <|
 .ite ((andI .u32 (shrI .u32 (nth a1 (w64 (Int.tdiv i (32 : Int))) (dflt (.int .u32))) (wu64 (Int.tmod i (32 : Int)))) (1 : Int)) == 1)
  (T.bind (ref1_Add r6 ([(1 : Int)] : List Int)) fun r7 =>
 .obl (curOk xs.length (0 : Nat) xs.length xs.length) <|
 .obl (xs.length = xs.length) <|
 .ret (r7,xs))
  (.obl (curOk xs.length (0 : Nat) xs.length xs.length) <|
 .obl (xs.length = xs.length) <|
 .ret (r6,xs)) : T (((List Int) × (List Int)))) fun (r8,xs1) =>
 T.bind (ref1_Cmp r8 b1) fun r9 =>
 .ite (decide ((0 : Int) ≤ r9))
  (T.bind (ref1_Sub r8 b1) fun (r10,r11) =>
 .obl ((32 : Int) ≠ (0 : Int)) <|
 .obl ((32 : Int) ≠ (0 : Int)) <|
 .obl (idxOk (w64 (Int.tdiv i (32 : Int))) xs1.length) <|
 .obl (eOk xs1.length xs1.length ((0 : Nat) + (Int.toNat (w64 (Int.tdiv i (32 : Int))))) xs1.length) <|
 .obl ((32 : Int) ≠ (0 : Int)) <|
 .obl ((0 : Int) ≤ (wu64 (Int.tmod i (32 : Int)))) <|
 .obl (idxOk (w64 (Int.tdiv i (32 : Int))) xs1.length) <|
 .obl (eOk xs1.length xs1.length ((0 : Nat) + (Int.toNat (w64 (Int.tdiv i (32 : Int))))) xs1.length) <|
 .obl (curOk xs1.length (0 : Nat) xs1.length (List.length (List.set xs1 ((0 : Nat) + (Int.toNat (w64 (Int.tdiv i (32 : Int))))) (orI .u32 (nthN xs1 ((0 : Nat) + (Int.toNat (w64 (Int.tdiv i (32 : Int))))) (dflt (.int .u32))) (shlI .u32 (1 : Int) (wu64 (Int.tmod i (32 : Int)))))))) <|
 .obl (xs1.length = (List.length (List.set xs1 ((0 : Nat) + (Int.toNat (w64 (Int.tdiv i (32 : Int))))) (orI .u32 (nthN xs1 ((0 : Nat) + (Int.toNat (w64 (Int.tdiv i (32 : Int))))) (dflt (.int .u32))) (shlI .u32 (1 : Int) (wu64 (Int.tmod i (32 : Int)))))))) <|
 .ret (.inl (r10,((w64 (i - 1)),(List.set xs1 ((0 : Nat) + (Int.toNat (w64 (Int.tdiv i (32 : Int))))) (orI .u32 (nthN xs1 ((0 : Nat) + (Int.toNat (w64 (Int.tdiv i (32 : Int))))) (dflt (.int .u32))) (shlI .u32 (1 : Int) (wu64 (Int.tmod i (32 : Int))))))))))
  (.obl (curOk xs1.length (0 : Nat) xs1.length xs1.length) <|
 .obl (xs1.length = xs1.length) <|
 .ret (.inl (r8,((w64 (i - 1)),xs1)))))
  (.obl (curOk xs.length (0 : Nat) xs.length xs.length) <|
 .obl (xs.length = xs.length) <|
 .ret (.inr (r5,xs)))
def ref1_DivMod_L0 (a1 : (List Int)) (b1 : (List Int)) (s : ((List Int) × Int × (List Int))) : T (((List Int) × (List Int))) := T.loop (ref1_DivMod_R0 a1 b1) s
def ref1_DivMod (a : (List Int)) (b : (List Int)) : T ((List Int) × (List Int) × Bool) :=
 T.bind (ref1_Trim b) fun r =>
 .ite ((Nat.cast r.length : Int) == (0 : Int))
  (.ret (([] : List Int),(([] : List Int),false)))
  (T.bind (ref1_To a) fun (x,one_) =>
 T.bind (ref1_To b) fun (y,two_) =>
 .ite (one_ && two_)
  (.obl (y ≠ (0 : Int)) <|
 T.bind (ref1_Of (wu64 (Int.tdiv x y))) fun r1 =>
 .obl (y ≠ (0 : Int)) <|
 T.bind (ref1_Of (Int.tmod x y)) fun r2 =>
 .ret (r1,(r2,true)))
  (.ite (two_ && (decide (y < (4294967296 : Int))))
  (T.bind (ref1_small a y) fun (q,r3) =>
 T.bind (ref1_Of r3) fun r4 =>
 .ret (q,(r4,true)))
  (.obl (mkOk (Nat.cast a.length : Int) (Nat.cast a.length : Int) (4 : Nat)) <|
 .obl (curOk (Int.toNat (Nat.cast a.length : Int)) (0 : Nat) (Int.toNat (Nat.cast a.length : Int)) (List.length (List.replicate (Int.toNat (Nat.cast a.length : Int)) (0 : Int)))) <|
 .obl ((Int.toNat (Nat.cast a.length : Int)) = (List.length (List.replicate (Int.toNat (Nat.cast a.length : Int)) (0 : Int)))) <|
 T.bind (ref1_DivMod_L0 a b (([] : List Int),((w64 ((w64 ((32 : Int) * (Nat.cast a.length : Int))) - 1)),(List.replicate (Int.toNat (Nat.cast a.length : Int)) (0 : Int))))) fun (r12,xs2) =>
 .obl (xs2.length = xs2.length) <|
 T.bind (ref1_Trim (List.drop (0 : Nat) (List.take ((0 : Nat) + xs2.length) xs2))) fun r13 =>
 T.bind (ref1_Trim r12) fun r14 =>
 .ret (r13,(r14,true)))))
def ref1_Gcd_R0  : ((List Int) × (List Int)) → T (((List Int) × (List Int)) ⊕ ((List Int)))
 | (x1,y1) =>
 .ite (decide ((0 : Int) < (Nat.cast y1.length : Int)))
  (T.bind (ref1_DivMod x1 y1) fun (r,r1,r2) =>
 .ret (.inl (y1,r1)))
  (.ret (.inr x1))
def ref1_Gcd_L0  (s : ((List Int) × (List Int))) : T ((List Int)) := T.loop (ref1_Gcd_R0 ) s
def ref1_Gcd (a : (List Int)) (b : (List Int)) : T (List Int) :=
 T.bind (ref1_Trim a) fun x =>
 T.bind (ref1_Trim b) fun y =>
 T.bind (ref1_Gcd_L0  (x,y)) fun x2 =>
 .ret x2
def ref2_Norm (a : Rat) : T Rat :=
 T.bind (ref1_Trim a.2.1) fun n =>
 T.bind (ref1_Trim a.2.2.1) fun d =>
 .ite (((Nat.cast d.length : Int) == (0 : Int)) || ((Nat.cast n.length : Int) == (0 : Int)))
  (.ret (false,(([] : List Int),(([(1 : Int)] : List Int),()))))
  (T.bind (ref1_Gcd n d) fun g =>
 T.bind (ref1_DivMod n g) fun (n1,r,r1) =>
 T.bind (ref1_DivMod d g) fun (d1,r2,r3) =>
 .ret (a.1,(n1,(d1,()))))
def ref1_Mul_R1 (a2 : (List Int)) (b2 : (List Int)) (i1 : Int) : (Int × Int × (List Int)) → T ((Int × Int × (List Int)) ⊕ ((List Int)))
 | (c,k,xs1) =>
 .ite ((decide (k < (Nat.cast b2.length : Int))) || (decide ((0 : Int) < c)))
  (.ite (decide ((Nat.cast xs1.length : Int) ≤ (w64 (i1 + k))))
  (.obl (curOk xs1.length (0 : Nat) xs1.length xs1.length) <|
 .obl (xs1.length = xs1.length) <|
 .ret (.inr xs1))
  (.obl (idxOk i1 a2.length) <|
 T.bind (ref1_at b2 k) fun r =>
 .obl (idxOk (w64 (i1 + k)) xs1.length) <|
 .obl (eOk xs1.length xs1.length ((0 : Nat) + (Int.toNat (w64 (i1 + k)))) xs1.length) <|
 .obl (idxOk (w64 (i1 + k)) xs1.length) <|
 .obl (eOk xs1.length xs1.length ((0 : Nat) + (Int.toNat (w64 (i1 + k)))) xs1.length) <|
 .obl ((0 : Int) ≤ (32 : Int)) <|
 .obl (curOk xs1.length (0 : Nat) xs1.length (List.length (List.set xs1 ((0 : Nat) + (Int.toNat (w64 (i1 + k)))) (wu32 (wu64 ((wu64 (c + (wu64 ((wu64 (nth a2 i1 (dflt (.int .u32)))) * r)))) + (wu64 (nthN xs1 ((0 : Nat) + (Int.toNat (w64 (i1 + k)))) (dflt (.int .u32)))))))))) <|
 .obl (xs1.length = (List.length (List.set xs1 ((0 : Nat) + (Int.toNat (w64 (i1 + k)))) (wu32 (wu64 ((wu64 (c + (wu64 ((wu64 (nth a2 i1 (dflt (.int .u32)))) * r)))) + (wu64 (nthN xs1 ((0 : Nat) + (Int.toNat (w64 (i1 + k)))) (dflt (.int .u32)))))))))) <|
 .ret (.inl ((shrI .u64 (wu64 ((wu64 (c + (wu64 ((wu64 (nth a2 i1 (dflt (.int .u32)))) * r)))) + (wu64 (nthN xs1 ((0 : Nat) + (Int.toNat (w64 (i1 + k)))) (dflt (.int .u32)))))) (32 : Int)),((w64 (k + 1)),(List.set xs1 ((0 : Nat) + (Int.toNat (w64 (i1 + k)))) (wu32 (wu64 ((wu64 (c + (wu64 ((wu64 (nth a2 i1 (dflt (.int .u32)))) * r)))) + (wu64 (nthN xs1 ((0 : Nat) + (Int.toNat (w64 (i1 + k)))) (dflt (.int .u32)))))))))))))
  (.obl (curOk xs1.length (0 : Nat) xs1.length xs1.length) <|
 .obl (xs1.length = xs1.length) <|
 .ret (.inr xs1))
def ref1_Mul_L1 (a2 : (List Int)) (b2 : (List Int)) (i1 : Int) (s : (Int × Int × (List Int))) : T ((List Int)) := T.loop (ref1_Mul_R1 a2 b2 i1) s
def ref1_Mul_R0 (a1 : (List Int)) (b1 : (List Int)) : (Int × (List Int)) → T ((Int × (List Int)) ⊕ ((List Int)))
 | (i,xs) =>
 .ite (decide (i < (Nat.cast a1.length : Int)))
  (.obl (curOk xs.length (0 : Nat) xs.length xs.length) <|
 .obl (xs.length = xs.length) <|
 T.bind (ref1_Mul_L1 a1 b1 i ((0 : Int),((0 : Int),xs))) fun xs2 =>
 .obl (curOk xs2.length (0 : Nat) xs2.length xs2.length) <|
 .obl (xs2.length = xs2.length) <|
 .ret (.inl ((w64 (i + 1)),xs2)))
  (.obl (curOk xs.length (0 : Nat) xs.length xs.length) <|
 .obl (xs.length = xs.length) <|
 .ret (.inr xs))
def ref1_Mul_L0 (a1 : (List Int)) (b1 : (List Int)) (s : (Int × (List Int))) : T ((List Int)) := T.loop (ref1_Mul_R0 a1 b1) s
def ref1_Mul (a : (List Int)) (b : (List Int)) : T (List Int) :=
 .obl (mkOk (w64 ((Nat.cast a.length : Int) + (Nat.cast b.length : Int))) (w64 ((Nat.cast a.length : Int) + (Nat.cast b.length : Int))) (4 : Nat)) <|
 .obl (curOk (Int.toNat (w64 ((Nat.cast a.length : Int) + (Nat.cast b.length : Int)))) (0 : Nat) (Int.toNat (w64 ((Nat.cast a.length : Int) + (Nat.cast b.length : Int)))) (List.length (List.replicate (Int.toNat (w64 ((Nat.cast a.length : Int) + (Nat.cast b.length : Int)))) (0 : Int)))) <|
 .obl ((Int.toNat (w64 ((Nat.cast a.length : Int) + (Nat.cast b.length : Int)))) = (List.length (List.replicate (Int.toNat (w64 ((Nat.cast a.length : Int) + (Nat.cast b.length : Int)))) (0 : Int)))) <|
 T.bind (ref1_Mul_L0 a b ((0 : Int),(List.replicate (Int.toNat (w64 ((Nat.cast a.length : Int) + (Nat.cast b.length : Int)))) (0 : Int)))) fun xs3 =>
 .obl (xs3.length = xs3.length) <|
 T.bind (ref1_Trim (List.drop (0 : Nat) (List.take ((0 : Nat) + xs3.length) xs3))) fun r1 =>
 .ret r1
def ref1_Print_R0  : ((List Int) × Str) → T (((List Int) × Str) ⊕ (Str))
 | (t1,s) =>
 .ite (decide ((0 : Int) < (Nat.cast t1.length : Int)))
  (T.bind (ref1_small t1 (10 : Int)) fun (t2,r) =>
 .obl (((List.length (bytesStr ([(wu8 (wu64 ((48 : Int) + r)))] : List Int))) + s.length) ≤ (4611686018427387904 : Nat)) <|
 .ret (.inl (t2,(cat (bytesStr ([(wu8 (wu64 ((48 : Int) + r)))] : List Int)) s))))
  (.ret (.inr s))
def ref1_Print_L0  (s : ((List Int) × Str)) : T (Str) := T.loop (ref1_Print_R0 ) s
def ref1_Print (a : (List Int)) : T Str :=
 T.bind (ref1_Trim a) fun t =>
 .ite ((Nat.cast t.length : Int) == (0 : Int))
  (.ret ([48] : Str))
  (T.bind (ref1_Print_L0  (t,([] : Str))) fun s1 =>
 .ret s1)
def ref3_digits_R0 (least1 : Int) : Str → T (Str ⊕ (Str))
 | s1 =>
 .ite (decide ((Nat.cast s1.length : Int) < least1))
  (.obl (((List.length ([48] : Str)) + s1.length) ≤ (4611686018427387904 : Nat)) <|
 .ret (.inl (cat ([48] : Str) s1)))
  (.ret (.inr s1))
def ref3_digits_L0 (least1 : Int) (s : Str) : T (Str) := T.loop (ref3_digits_R0 least1) s
def ref3_digits (n : (List Int)) (least : Int) : T Str :=
 T.bind (ref1_Print n) fun s =>
 T.bind (ref3_digits_L0 least s) fun s2 =>
 .ret s2
def ref3_sign (neg : Bool) : T Str :=
 .ite neg
  (.ret ([45] : Str))
  (.ret ([] : Str))
def ref3_point (neg : Bool) (n : (List Int)) (scale : Int) : T Str :=
 T.bind (ref3_digits n (w64 (scale + 1))) fun s =>
 .obl (((decide ((0 : Int) < scale)) = true) → ((slOk (0 : Int) (w64 ((Nat.cast s.length : Int) - scale)) s.length) ∧ ((((List.length (cutS (0 : Int) (w64 ((Nat.cast s.length : Int) - scale)) s)) + (List.length ([46] : Str))) ≤ (4611686018427387904 : Nat)) ∧ ((slOk (w64 ((Nat.cast s.length : Int) - scale)) (Nat.cast s.length : Int) s.length) ∧ (((List.length (cat (cutS (0 : Int) (w64 ((Nat.cast s.length : Int) - scale)) s) ([46] : Str))) + (List.length (cutS (w64 ((Nat.cast s.length : Int) - scale)) (Nat.cast s.length : Int) s))) ≤ (4611686018427387904 : Nat)))))) <|
 .ite neg
  (T.bind (ref3_sign (decide ((0 : Int) < (Nat.cast n.length : Int)))) fun r =>
 .obl ((r.length + (List.length (bif (decide ((0 : Int) < scale)) then (cat (cat (cutS (0 : Int) (w64 ((Nat.cast s.length : Int) - scale)) s) ([46] : Str)) (cutS (w64 ((Nat.cast s.length : Int) - scale)) (Nat.cast s.length : Int) s)) else s))) ≤ (4611686018427387904 : Nat)) <|
 .ret (cat r (bif (decide ((0 : Int) < scale)) then (cat (cat (cutS (0 : Int) (w64 ((Nat.cast s.length : Int) - scale)) s) ([46] : Str)) (cutS (w64 ((Nat.cast s.length : Int) - scale)) (Nat.cast s.length : Int) s)) else s)))
  (T.bind (ref3_sign false) fun r1 =>
 .obl ((r1.length + (List.length (bif (decide ((0 : Int) < scale)) then (cat (cat (cutS (0 : Int) (w64 ((Nat.cast s.length : Int) - scale)) s) ([46] : Str)) (cutS (w64 ((Nat.cast s.length : Int) - scale)) (Nat.cast s.length : Int) s)) else s))) ≤ (4611686018427387904 : Nat)) <|
 .ret (cat r1 (bif (decide ((0 : Int) < scale)) then (cat (cat (cutS (0 : Int) (w64 ((Nat.cast s.length : Int) - scale)) s) ([46] : Str)) (cutS (w64 ((Nat.cast s.length : Int) - scale)) (Nat.cast s.length : Int) s)) else s)))
def ref3_Exact_R0  : ((List Int) × Int × Rat) → T (((List Int) × Int × Rat) ⊕ (Rat ⊕ (Str × Bool × Rat)))
 | (t,k,v) =>
 .ite (decide (k ≤ (60 : Int)))
  (T.bind (ref1_Mul v.2.1 t) fun r1 =>
 T.bind (ref1_DivMod r1 v.2.2.1) fun (q,r2,r3) =>
 .ite ((Nat.cast r2.length : Int) == (0 : Int))
  (T.bind (ref3_point v.1 q k) fun r4 =>
 .ret (.inr (.inr (r4,(true,v)))))
  (T.bind (ref1_Mul t ([(10 : Int)] : List Int)) fun t1 =>
 .ret (.inl (t1,((w64 (k + 1)),v)))))
  (.ret (.inr (.inl v)))
def ref3_Exact_L0  (s : ((List Int) × Int × Rat)) : T (Rat ⊕ (Str × Bool × Rat)) := T.loop (ref3_Exact_R0 ) s
def ref3_Exact (a : Rat) : T (Str × Bool) :=
 T.bind (ref2_Norm a) fun r =>
 T.bind (ref3_Exact_L0  (([(1 : Int)] : List Int),((0 : Int),r))) <|
 Sum.elim (fun v1 =>
 .ret (([] : Str),false))
  (fun (x,x1,v2) =>
 .ret (x,x1))
def ref2_limbs_R0 (a1 : (List Int)) (b1 : (List Int)) : Int → T (Int ⊕ (Unit ⊕ Bool))
 | i =>
 .ite (decide (i < (Nat.cast a1.length : Int)))
  (.obl (idxOk i a1.length) <|
 .obl (idxOk i b1.length) <|
 .ite ((nth a1 i (dflt (.int .u32))) != (nth b1 i (dflt (.int .u32))))
  (.ret (.inr (.inr false)))
  (.ret (.inl (w64 (i + 1)))))
  (.ret (.inr (.inl ())))
def ref2_limbs_L0 (a1 : (List Int)) (b1 : (List Int)) (s : Int) : T (Unit ⊕ Bool) := T.loop (ref2_limbs_R0 a1 b1) s
def ref2_limbs (a : (List Int)) (b : (List Int)) : T Bool :=
 .ite ((Nat.cast a.length : Int) != (Nat.cast b.length : Int))
  (.ret false)
  (T.bind (ref2_limbs_L0 a b (0 : Int)) <|
 Sum.elim (fun _ =>
 .ret true)
  (fun x =>
 .ret x))
def ref2_Is (a : Rat) : T Bool :=
 T.bind (ref2_Norm a) fun r =>
 .ite (a.1 == r.1)
  (T.bind (ref2_limbs a.2.1 r.2.1) fun r1 =>
 .ite r1
  (T.bind (ref2_limbs a.2.2.1 r.2.2.1) fun r2 =>
 .ret r2)
  (.ret false))
  (.ret false)
def ref2_Large (a : Rat) : T Bool :=
 T.bind (ref2_Norm a) fun r =>
 .ret ((decide ((16 : Int) < (Nat.cast r.2.1.length : Int))) || (decide ((16 : Int) < (Nat.cast r.2.2.1.length : Int))))
def ref2_Good (a : Rat) : T Bool :=
 T.bind (ref2_Is a) fun r =>
 .ite r
  (T.bind (ref2_Large a) fun r1 =>
 .ret (!r1))
  (.ret false)
def ref5_letter (c : Int) : T Bool :=
 .ret ((decide ((97 : Int) ≤ c)) && (decide (c ≤ (122 : Int))))
def ref5_digit (c : Int) : T Bool :=
 .ret ((decide ((48 : Int) ≤ c)) && (decide (c ≤ (57 : Int))))
def ref5_Name_R0 (s1 : Str) : Int → T (Int ⊕ (Unit ⊕ Bool))
 | i =>
 .ite (decide (i < (Nat.cast s1.length : Int)))
  (T.bind (.obl (idxOk i s1.length) <|
 T.bind (ref5_letter (byteAt s1 i)) fun r1 =>
 .ite (!r1)
  (.obl (idxOk i s1.length) <|
 T.bind (ref5_digit (byteAt s1 i)) fun r2 =>
 .ite (!r2)
  (.obl (idxOk i s1.length) <|
 .ret ((byteAt s1 i) != 95))
  (.ret false))
  (.ret false) : T (Bool)) fun x1 =>
 .ite x1
  (.ret (.inr (.inr false)))
  (.ret (.inl (w64 (i + 1)))))
  (.ret (.inr (.inl ())))
def ref5_Name_L0 (s1 : Str) (s : Int) : T (Unit ⊕ Bool) := T.loop (ref5_Name_R0 s1) s
def ref5_Name (s : Str) : T Bool :=
 T.bind (.ite (decide ((Nat.cast s.length : Int) < (1 : Int)))
  (.ret true)
  (.ite (decide ((24 : Int) < (Nat.cast s.length : Int)))
  (.ret true)
  (.obl (idxOk (0 : Int) s.length) <|
 T.bind (ref5_letter (byteAt s (0 : Int))) fun r =>
 .ret (!r))) : T (Bool)) fun x =>
 .ite x
  (.ret false)
  (T.bind (ref5_Name_L0 s (1 : Int)) <|
 Sum.elim (fun _ =>
 .ret true)
  (fun x2 =>
 .ret x2))
def ref5_blank (a : Rat) : T Bool :=
 .ite (!a.1)
  (.ite ((Nat.cast a.2.1.length : Int) == (0 : Int))
  (.ite ((Nat.cast a.2.2.1.length : Int) == (0 : Int))
  (.ret true)
  (T.bind (ref2_Is a) fun r =>
 .ret r))
  (.ret false))
  (.ret false)
def ref5_one_R0 (self_ref5_one : AM.Expr → Int → T Bool) (deep1 : Int) (e1 : AM.Expr) (kids1 : Int) : Int → T (Int ⊕ (Unit ⊕ Bool))
 | i =>
 .ite (decide (i < kids1))
  (.obl (idxOk i (List.length (Expr.kids e1))) <|
 T.bind (self_ref5_one (nth (Expr.kids e1) i (dflt .expr)) (w64 (deep1 + 1))) fun r5 =>
 .ite (!r5)
  (.ret (.inr (.inr false)))
  (.ret (.inl (w64 (i + 1)))))
  (.ret (.inr (.inl ())))
def ref5_one_L0 (self_ref5_one : AM.Expr → Int → T Bool) (deep1 : Int) (e1 : AM.Expr) (kids1 : Int) (s : Int) : T (Unit ⊕ Bool) := T.loop (ref5_one_R0 self_ref5_one deep1 e1 kids1) s
def ref5_one_B (self_ref5_one : AM.Expr → Int → T Bool) (e : AM.Expr) (deep : Int) : T Bool :=
 .ite (decide ((32 : Int) < deep))
  (.ret false)
  (T.bind (.ite ((Expr.kind e) == 1)
  (T.bind (ref3_Exact (Expr.num e)) fun (r,ok) =>
 .ite ((Nat.cast (List.length (Expr.kids e)) : Int) == (0 : Int))
  (.ite (strEq (Expr.name e) ([] : Str))
  (T.bind (ref2_Good (Expr.num e)) fun r1 =>
 .ite r1
  (.ite (!(Expr.num e).1)
  (.ret (.inr ok))
  (.ret (.inr false)))
  (.ret (.inr false)))
  (.ret (.inr false)))
  (.ret (.inr false)))
  (.ite ((Expr.kind e) == 2)
  (.ite ((Nat.cast (List.length (Expr.kids e)) : Int) == (0 : Int))
  (T.bind (ref5_Name (Expr.name e)) fun r2 =>
 .ite r2
  (T.bind (ref5_blank (Expr.num e)) fun r3 =>
 .ret (.inr r3))
  (.ret (.inr false)))
  (.ret (.inr false)))
  (.ite ((Expr.kind e) == 7)
  (.ret (.inl (1 : Int)))
  (.ite ((Expr.kind e) == 3)
  (.ret (.inl (2 : Int)))
  (.ite ((Expr.kind e) == 4)
  (.ret (.inl (2 : Int)))
  (.ite ((Expr.kind e) == 5)
  (.ret (.inl (2 : Int)))
  (.ite ((Expr.kind e) == 6)
  (.ret (.inl (2 : Int)))
  (.ret (.inr false)))))))) : T (Int ⊕ Bool)) <|
 Sum.elim (fun kids =>
 T.bind (.ite ((Nat.cast (List.length (Expr.kids e)) : Int) != kids)
  (.ret true)
  (.ite (!(strEq (Expr.name e) ([] : Str)))
  (.ret true)
  (T.bind (ref5_blank (Expr.num e)) fun r4 =>
 .ret (!r4))) : T (Bool)) fun x1 =>
 .ite x1
  (.ret false)
  (T.bind (ref5_one_L0 self_ref5_one deep e kids (0 : Int)) <|
 Sum.elim (fun _ =>
 .ret true)
  (fun x2 =>
 .ret x2)))
  (fun x =>
 .ret x))
def ref5_one (e : AM.Expr) (deep : Int) : T Bool := T.fix (fun F x => ref5_one_B (fun y0 y1 => F (y0,y1)) x.1 x.2) (e,deep)
def ref5_Nodes_R0 (self_ref5_Nodes : AM.Expr → T Int) (e1 : AM.Expr) : (Int × Int) → T ((Int × Int) ⊕ (Int))
 | (n,i) =>
 .ite (decide (i < (Nat.cast (List.length (Expr.kids e1)) : Int)))
  (.obl (idxOk i (List.length (Expr.kids e1))) <|
 T.bind (self_ref5_Nodes (nth (Expr.kids e1) i (dflt .expr))) fun r =>
 .ret (.inl ((w64 (n + r)),(w64 (i + 1)))))
  (.ret (.inr n))
def ref5_Nodes_L0 (self_ref5_Nodes : AM.Expr → T Int) (e1 : AM.Expr) (s : (Int × Int)) : T (Int) := T.loop (ref5_Nodes_R0 self_ref5_Nodes e1) s
def ref5_Nodes_B (self_ref5_Nodes : AM.Expr → T Int) (e : AM.Expr) : T Int :=
 T.bind (ref5_Nodes_L0 self_ref5_Nodes e ((1 : Int),(0 : Int))) fun n1 =>
 .ret n1
def ref5_Nodes (e : AM.Expr) : T Int := T.fix (fun F x => ref5_Nodes_B (fun y0 => F (y0)) x) e
def ref5_Is (e : AM.Expr) : T Bool :=
 T.bind (ref5_one e (1 : Int)) fun r =>
 .ite r
  (T.bind (ref5_Nodes e) fun r1 =>
 .ret (decide (r1 ≤ (256 : Int))))
  (.ret false)
def ref5_row (kind : Int) : T Int :=
 .ite (bif (kind == 3) then (kind == 3) else (kind == 4))
  (.ret (1 : Int))
  (.ite (bif (kind == 5) then (kind == 5) else (kind == 6))
  (.ret (2 : Int))
  (.ite (kind == 7)
  (.ret (3 : Int))
  (.ret (4 : Int))))
def ref5_text_B (self_ref5_text : AM.Expr → Int → T Str) (e : AM.Expr) (asks : Int) : T Str :=
 T.bind (.ite ((Expr.kind e) == 1)
  (T.bind (ref3_Exact (Expr.num e)) fun (s,r) =>
 .ret s)
  (.ite ((Expr.kind e) == 2)
  (.ret (Expr.name e))
  (.ite ((Expr.kind e) == 7)
  (.obl (idxOk (0 : Int) (List.length (Expr.kids e))) <|
 T.bind (self_ref5_text (nth (Expr.kids e) (0 : Int) (dflt .expr)) (3 : Int)) fun r1 =>
 .obl (((List.length ([45] : Str)) + r1.length) ≤ (4611686018427387904 : Nat)) <|
 .ret (cat ([45] : Str) r1))
  (.ite ((Expr.kind e) == 3)
  (.obl (idxOk (0 : Int) (List.length (Expr.kids e))) <|
 T.bind (self_ref5_text (nth (Expr.kids e) (0 : Int) (dflt .expr)) (1 : Int)) fun r2 =>
 .obl ((r2.length + (List.length ([32,43,32] : Str))) ≤ (4611686018427387904 : Nat)) <|
 .obl (idxOk (1 : Int) (List.length (Expr.kids e))) <|
 T.bind (self_ref5_text (nth (Expr.kids e) (1 : Int) (dflt .expr)) (2 : Int)) fun r3 =>
 .obl (((List.length (cat r2 ([32,43,32] : Str))) + r3.length) ≤ (4611686018427387904 : Nat)) <|
 .ret (cat (cat r2 ([32,43,32] : Str)) r3))
  (.ite ((Expr.kind e) == 4)
  (.obl (idxOk (0 : Int) (List.length (Expr.kids e))) <|
 T.bind (self_ref5_text (nth (Expr.kids e) (0 : Int) (dflt .expr)) (1 : Int)) fun r4 =>
 .obl ((r4.length + (List.length ([32,45,32] : Str))) ≤ (4611686018427387904 : Nat)) <|
 .obl (idxOk (1 : Int) (List.length (Expr.kids e))) <|
 T.bind (self_ref5_text (nth (Expr.kids e) (1 : Int) (dflt .expr)) (2 : Int)) fun r5 =>
 .obl (((List.length (cat r4 ([32,45,32] : Str))) + r5.length) ≤ (4611686018427387904 : Nat)) <|
 .ret (cat (cat r4 ([32,45,32] : Str)) r5))
  (.ite ((Expr.kind e) == 5)
  (.obl (idxOk (0 : Int) (List.length (Expr.kids e))) <|
 T.bind (self_ref5_text (nth (Expr.kids e) (0 : Int) (dflt .expr)) (2 : Int)) fun r6 =>
 .obl ((r6.length + (List.length ([32,42,32] : Str))) ≤ (4611686018427387904 : Nat)) <|
 .obl (idxOk (1 : Int) (List.length (Expr.kids e))) <|
 T.bind (self_ref5_text (nth (Expr.kids e) (1 : Int) (dflt .expr)) (3 : Int)) fun r7 =>
 .obl (((List.length (cat r6 ([32,42,32] : Str))) + r7.length) ≤ (4611686018427387904 : Nat)) <|
 .ret (cat (cat r6 ([32,42,32] : Str)) r7))
  (.ite ((Expr.kind e) == 6)
  (.obl (idxOk (0 : Int) (List.length (Expr.kids e))) <|
 T.bind (self_ref5_text (nth (Expr.kids e) (0 : Int) (dflt .expr)) (2 : Int)) fun r8 =>
 .obl ((r8.length + (List.length ([32,47,32] : Str))) ≤ (4611686018427387904 : Nat)) <|
 .obl (idxOk (1 : Int) (List.length (Expr.kids e))) <|
 T.bind (self_ref5_text (nth (Expr.kids e) (1 : Int) (dflt .expr)) (3 : Int)) fun r9 =>
 .obl (((List.length (cat r8 ([32,47,32] : Str))) + r9.length) ≤ (4611686018427387904 : Nat)) <|
 .ret (cat (cat r8 ([32,47,32] : Str)) r9))
  (.ret ([] : Str)))))))) : T (Str)) fun s1 =>
 T.bind (ref5_row (Expr.kind e)) fun r10 =>
 .ite (decide (r10 < asks))
  (.obl (((List.length ([40] : Str)) + s1.length) ≤ (4611686018427387904 : Nat)) <|
 .obl (((List.length (cat ([40] : Str) s1)) + (List.length ([41] : Str))) ≤ (4611686018427387904 : Nat)) <|
 .ret (cat (cat ([40] : Str) s1) ([41] : Str)))
  (.ret s1)
def ref5_text (e : AM.Expr) (asks : Int) : T Str := T.fix (fun F x => ref5_text_B (fun y0 y1 => F (y0,y1)) x.1 x.2) (e,asks)
def ref5_Print (e : AM.Expr) : T Str :=
 T.bind (ref5_Is e) fun r =>
 .ite (!r)
  (.ret ([] : Str))
  (T.bind (ref5_text e (1 : Int)) fun r1 =>
 .ret r1)
def expr_Depth_R0 (self_expr_Depth : AM.Expr → T Int) (x : (List AM.Expr)) (x1 : Int) : (Int × Int) → T ((Int × Int) ⊕ (Int))
 | (deep,x2) =>
 .ite (decide (x2 < x1))
  (.obl (idxOk x2 x.length) <|
 T.bind (self_expr_Depth (nth x x2 (dflt .expr))) fun r =>
 .ret (.inl ((maxI deep r),(w64 (x2 + 1)))))
  (.ret (.inr deep))
def expr_Depth_L0 (self_expr_Depth : AM.Expr → T Int) (x : (List AM.Expr)) (x1 : Int) (s : (Int × Int)) : T (Int) := T.loop (expr_Depth_R0 self_expr_Depth x x1) s
def expr_Depth_B (self_expr_Depth : AM.Expr → T Int) (e : AM.Expr) : T Int :=
 T.bind (expr_Depth_L0 self_expr_Depth (Expr.kids e) (Nat.cast (List.length (Expr.kids e)) : Int) ((0 : Int),(0 : Int))) fun deep1 =>
 .ret (w64 (deep1 + 1))
def expr_Depth (e : AM.Expr) : T Int := T.fix (fun F x => expr_Depth_B (fun y0 => F (y0)) x) e
def ref5_Depth_R0 (self_ref5_Depth : AM.Expr → T Int) (e1 : AM.Expr) : (Int × Int) → T ((Int × Int) ⊕ (Int))
 | (d,i) =>
 .ite (decide (i < (Nat.cast (List.length (Expr.kids e1)) : Int)))
  (.obl (idxOk i (List.length (Expr.kids e1))) <|
 T.bind (self_ref5_Depth (nth (Expr.kids e1) i (dflt .expr))) fun r =>
 .ret (.inl ((maxI d r),(w64 (i + 1)))))
  (.ret (.inr d))
def ref5_Depth_L0 (self_ref5_Depth : AM.Expr → T Int) (e1 : AM.Expr) (s : (Int × Int)) : T (Int) := T.loop (ref5_Depth_R0 self_ref5_Depth e1) s
def ref5_Depth_B (self_ref5_Depth : AM.Expr → T Int) (e : AM.Expr) : T Int :=
 T.bind (ref5_Depth_L0 self_ref5_Depth e ((0 : Int),(0 : Int))) fun d1 =>
 .ret (w64 (d1 + 1))
def ref5_Depth (e : AM.Expr) : T Int := T.fix (fun F x => ref5_Depth_B (fun y0 => F (y0)) x) e
def expr_Nodes_R0 (self_expr_Nodes : AM.Expr → T Int) (x : (List AM.Expr)) (x1 : Int) : (Int × Int) → T ((Int × Int) ⊕ (Int))
 | (n,x2) =>
 .ite (decide (x2 < x1))
  (.obl (idxOk x2 x.length) <|
 T.bind (self_expr_Nodes (nth x x2 (dflt .expr))) fun r =>
 .ret (.inl ((w64 (n + r)),(w64 (x2 + 1)))))
  (.ret (.inr n))
def expr_Nodes_L0 (self_expr_Nodes : AM.Expr → T Int) (x : (List AM.Expr)) (x1 : Int) (s : (Int × Int)) : T (Int) := T.loop (expr_Nodes_R0 self_expr_Nodes x x1) s
def expr_Nodes_B (self_expr_Nodes : AM.Expr → T Int) (e : AM.Expr) : T Int :=
 T.bind (expr_Nodes_L0 self_expr_Nodes (Expr.kids e) (Nat.cast (List.length (Expr.kids e)) : Int) ((1 : Int),(0 : Int))) fun n1 =>
 .ret n1
def expr_Nodes (e : AM.Expr) : T Int := T.fix (fun F x => expr_Nodes_B (fun y0 => F (y0)) x) e
def slices_Index_sl_string_R0 (s1 : (List Str)) (v1 : Str) (x : Int) : Int → T (Int ⊕ (Unit ⊕ Int))
 | x1 =>
 .ite (decide (x1 < x))
  (.obl (idxOk x1 s1.length) <|
 .ite (strEq v1 (nth s1 x1 (dflt .str)))
  (.ret (.inr (.inr x1)))
  (.ret (.inl (w64 (x1 + 1)))))
  (.ret (.inr (.inl ())))
def slices_Index_sl_string_L0 (s1 : (List Str)) (v1 : Str) (x : Int) (s : Int) : T (Unit ⊕ Int) := T.loop (slices_Index_sl_string_R0 s1 v1 x) s
def slices_Index_sl_string (s : (List Str)) (v : Str) : T Int :=
 T.bind (slices_Index_sl_string_L0 s v (Nat.cast s.length : Int) (0 : Int)) <|
 Sum.elim (fun _ =>
 .ret (-1 : Int))
  (fun x2 =>
 .ret x2)
def slices_Contains_sl_string (s : (List Str)) (v : Str) : T Bool :=
 T.bind (slices_Index_sl_string s v) fun r =>
 .ret (decide ((0 : Int) ≤ r))
def expr_names_S_R0 (self_expr_names : AM.Expr → (List Str) → T (List Str)) (x1 : (List AM.Expr)) (x2 : Int) : (Int × (List Str)) → T ((Int × (List Str)) ⊕ ((List Str)))
 | (x3,xs2) =>
 .ite (decide (x3 < x2))
  (.obl (idxOk x3 x1.length) <|
 .obl (curOk xs2.length (0 : Nat) xs2.length xs2.length) <|
 .obl (xs2.length = xs2.length) <|
 T.bind (self_expr_names (nth x1 x3 (dflt .expr)) xs2) fun l1 =>
 .obl (curOk l1.length (0 : Nat) l1.length l1.length) <|
 .obl (l1.length = l1.length) <|
 .ret (.inl ((w64 (x3 + 1)),l1)))
  (.obl (curOk xs2.length (0 : Nat) xs2.length xs2.length) <|
 .obl (xs2.length = xs2.length) <|
 .ret (.inr xs2))
def expr_names_S_L0 (self_expr_names : AM.Expr → (List Str) → T (List Str)) (x1 : (List AM.Expr)) (x2 : Int) (s : (Int × (List Str))) : T ((List Str)) := T.loop (expr_names_S_R0 self_expr_names x1 x2) s
def expr_names_S_B (self_expr_names : AM.Expr → (List Str) → T (List Str)) (e : AM.Expr) (l : (List Str)) : T (List Str) :=
 T.bind (T.bind (.ite ((Expr.kind e) == 2)
  (.obl (l.length = l.length) <|
 T.bind (slices_Contains_sl_string (List.drop (0 : Nat) (List.take ((0 : Nat) + l.length) l)) (Expr.name e)) fun r =>
 .obl (curOk l.length (0 : Nat) l.length l.length) <|
 .obl (l.length = l.length) <|
 .ret ((!r),l))
  (.obl (curOk l.length (0 : Nat) l.length l.length) <|
 .obl (l.length = l.length) <|
 .ret (false,l)) : T ((Bool × (List Str)))) fun (x,xs) =>
 .ite x
  (.obl (appOk xs.length xs.length (0 : Nat) xs.length xs.length (1 : Nat) (16 : Nat)) <|
 .obl (curOk (xs.length + (1 : Nat)) (0 : Nat) (xs.length + (1 : Nat)) (List.length (xs ++ ([(Expr.name e)] : List Str)))) <|
 .obl ((xs.length + (1 : Nat)) = (List.length (xs ++ ([(Expr.name e)] : List Str)))) <|
 .ret (xs ++ ([(Expr.name e)] : List Str)))
  (.obl (curOk xs.length (0 : Nat) xs.length xs.length) <|
 .obl (xs.length = xs.length) <|
 .ret xs) : T ((List Str))) fun xs1 =>
 .obl (curOk xs1.length (0 : Nat) xs1.length xs1.length) <|
 .obl (xs1.length = xs1.length) <|
 T.bind (expr_names_S_L0 self_expr_names (Expr.kids e) (Nat.cast (List.length (Expr.kids e)) : Int) ((0 : Int),xs1)) fun xs3 =>
 .obl (curOk xs3.length (0 : Nat) xs3.length xs3.length) <|
 .obl (xs3.length = xs3.length) <|
 .ret xs3
def expr_names_S (e : AM.Expr) (l : (List Str)) : T (List Str) := T.fix (fun F x => expr_names_S_B (fun y0 y1 => F (y0,y1)) x.1 x.2) (e,l)
def expr_names_SN_R0 (x1 : (List AM.Expr)) (x2 : Int) : (Int × (List Str)) → T ((Int × (List Str)) ⊕ ((List Str)))
 | (x3,xs2) =>
 .ite (decide (x3 < x2))
  (.obl (idxOk x3 x1.length) <|
 .obl (curOk xs2.length (0 : Nat) xs2.length xs2.length) <|
 .obl (xs2.length = xs2.length) <|
 T.bind (expr_names_S (nth x1 x3 (dflt .expr)) xs2) fun l1 =>
 .obl (curOk l1.length (0 : Nat) l1.length l1.length) <|
 .obl (l1.length = l1.length) <|
 .ret (.inl ((w64 (x3 + 1)),l1)))
  (.obl (curOk xs2.length (0 : Nat) xs2.length xs2.length) <|
 .obl (xs2.length = xs2.length) <|
 .ret (.inr xs2))
def expr_names_SN_L0 (x1 : (List AM.Expr)) (x2 : Int) (s : (Int × (List Str))) : T ((List Str)) := T.loop (expr_names_SN_R0 x1 x2) s
def expr_names_SN (e : AM.Expr) (l : (List Str)) : T (List Str) :=
 T.bind (T.bind (.ite ((Expr.kind e) == 2)
  (.obl (l.length = l.length) <|
 T.bind (slices_Contains_sl_string (List.drop (0 : Nat) (List.take ((0 : Nat) + l.length) l)) (Expr.name e)) fun r =>
 .obl (curOk l.length (0 : Nat) l.length l.length) <|
 .obl (l.length = l.length) <|
 .ret ((!r),l))
  (.obl (curOk l.length (0 : Nat) l.length l.length) <|
 .obl (l.length = l.length) <|
 .ret (false,l)) : T ((Bool × (List Str)))) fun (x,xs) =>
 .ite x
  (.obl (appOk xs.length xs.length (0 : Nat) xs.length xs.length (1 : Nat) (16 : Nat)) <|
 .obl (curOk (xs.length + (1 : Nat)) (0 : Nat) (xs.length + (1 : Nat)) (List.length (xs ++ ([(Expr.name e)] : List Str)))) <|
 .obl ((xs.length + (1 : Nat)) = (List.length (xs ++ ([(Expr.name e)] : List Str)))) <|
 .ret (xs ++ ([(Expr.name e)] : List Str)))
  (.obl (curOk xs.length (0 : Nat) xs.length xs.length) <|
 .obl (xs.length = xs.length) <|
 .ret xs) : T ((List Str))) fun xs1 =>
 .obl (curOk xs1.length (0 : Nat) xs1.length xs1.length) <|
 .obl (xs1.length = xs1.length) <|
 T.bind (expr_names_SN_L0 (Expr.kids e) (Nat.cast (List.length (Expr.kids e)) : Int) ((0 : Int),xs1)) fun xs3 =>
 .obl (curOk xs3.length (0 : Nat) xs3.length xs3.length) <|
 .obl (xs3.length = xs3.length) <|
 .ret xs3
def expr_Names (e : AM.Expr) : T (List Str) :=
 .obl (curOk (0 : Nat) (0 : Nat) (0 : Nat) (0 : Nat)) <|
 .obl ((0 : Nat) = (0 : Nat)) <|
 T.bind (expr_names_SN e ([] : List Str)) fun xs =>
 .obl (xs.length = xs.length) <|
 .ret (List.drop (0 : Nat) (List.take ((0 : Nat) + xs.length) xs))
def ref5_Has_R0 (l1 : (List Str)) (s1 : Str) : Int → T (Int ⊕ (Unit ⊕ Bool))
 | i =>
 .ite (decide (i < (Nat.cast l1.length : Int)))
  (.obl (idxOk i l1.length) <|
 .ite (strEq (nth l1 i (dflt .str)) s1)
  (.ret (.inr (.inr true)))
  (.ret (.inl (w64 (i + 1)))))
  (.ret (.inr (.inl ())))
def ref5_Has_L0 (l1 : (List Str)) (s1 : Str) (s : Int) : T (Unit ⊕ Bool) := T.loop (ref5_Has_R0 l1 s1) s
def ref5_Has (l : (List Str)) (s : Str) : T Bool :=
 T.bind (ref5_Has_L0 l s (0 : Int)) <|
 Sum.elim (fun _ =>
 .ret false)
  (fun x =>
 .ret x)
def ref5_Names_R1 (self_ref5_Names : AM.Expr → T (List Str)) (e2 : AM.Expr) (i1 : Int) (m1 : (List Str)) : (Int × (List Str)) → T ((Int × (List Str)) ⊕ ((List Str)))
 | (k,xs1) =>
 .ite (decide (k < (Nat.cast m1.length : Int)))
  (.obl (idxOk k m1.length) <|
 .obl (xs1.length = xs1.length) <|
 T.bind (ref5_Has (List.drop (0 : Nat) (List.take ((0 : Nat) + xs1.length) xs1)) (nth m1 k (dflt .str))) fun r =>
 .ite (!r)
  (.obl (idxOk k m1.length) <|
 .obl (appOk xs1.length xs1.length (0 : Nat) xs1.length xs1.length (1 : Nat) (16 : Nat)) <|
 .obl (curOk (xs1.length + (1 : Nat)) (0 : Nat) (xs1.length + (1 : Nat)) (List.length (xs1 ++ ([(nth m1 k (dflt .str))] : List Str)))) <|
 .obl ((xs1.length + (1 : Nat)) = (List.length (xs1 ++ ([(nth m1 k (dflt .str))] : List Str)))) <|
 .ret (.inl ((w64 (k + 1)),(xs1 ++ ([(nth m1 k (dflt .str))] : List Str)))))
  (.obl (curOk xs1.length (0 : Nat) xs1.length xs1.length) <|
 .obl (xs1.length = xs1.length) <|
 .ret (.inl ((w64 (k + 1)),xs1))))
  (.obl (curOk xs1.length (0 : Nat) xs1.length xs1.length) <|
 .obl (xs1.length = xs1.length) <|
 .ret (.inr xs1))
def ref5_Names_L1 (self_ref5_Names : AM.Expr → T (List Str)) (e2 : AM.Expr) (i1 : Int) (m1 : (List Str)) (s : (Int × (List Str))) : T ((List Str)) := T.loop (ref5_Names_R1 self_ref5_Names e2 i1 m1) s
def ref5_Names_R0 (self_ref5_Names : AM.Expr → T (List Str)) (e1 : AM.Expr) : (Int × (List Str)) → T ((Int × (List Str)) ⊕ ((List Str)))
 | (i,xs) =>
 .ite (decide (i < (Nat.cast (List.length (Expr.kids e1)) : Int)))
  (.obl (idxOk i (List.length (Expr.kids e1))) <|
 T.bind (self_ref5_Names (nth (Expr.kids e1) i (dflt .expr))) fun m =>
 .obl (curOk xs.length (0 : Nat) xs.length xs.length) <|
 .obl (xs.length = xs.length) <|
 T.bind (ref5_Names_L1 self_ref5_Names e1 i m ((0 : Int),xs)) fun xs2 =>
 .obl (curOk xs2.length (0 : Nat) xs2.length xs2.length) <|
 .obl (xs2.length = xs2.length) <|
 .ret (.inl ((w64 (i + 1)),xs2)))
  (.obl (curOk xs.length (0 : Nat) xs.length xs.length) <|
 .obl (xs.length = xs.length) <|
 .ret (.inr xs))
def ref5_Names_L0 (self_ref5_Names : AM.Expr → T (List Str)) (e1 : AM.Expr) (s : (Int × (List Str))) : T ((List Str)) := T.loop (ref5_Names_R0 self_ref5_Names e1) s
def ref5_Names_B (self_ref5_Names : AM.Expr → T (List Str)) (e : AM.Expr) : T (List Str) :=
 .ite ((Expr.kind e) == 2)
  (.obl (((1 : Nat) * (16 : Nat)) ≤ (140737488355328 : Nat)) <|
 .obl (curOk (1 : Nat) (0 : Nat) (1 : Nat) (1 : Nat)) <|
 .obl ((1 : Nat) = (1 : Nat)) <|
 T.bind (ref5_Names_L0 self_ref5_Names e ((0 : Int),([(Expr.name e)] : List Str))) fun xs3 =>
 .obl (xs3.length = xs3.length) <|
 .ret (List.drop (0 : Nat) (List.take ((0 : Nat) + xs3.length) xs3)))
  (.obl (curOk (0 : Nat) (0 : Nat) (0 : Nat) (0 : Nat)) <|
 .obl ((0 : Nat) = (0 : Nat)) <|
 T.bind (ref5_Names_L0 self_ref5_Names e ((0 : Int),([] : List Str))) fun xs4 =>
 .obl (xs4.length = xs4.length) <|
 .ret (List.drop (0 : Nat) (List.take ((0 : Nat) + xs4.length) xs4)))
def ref5_Names (e : AM.Expr) : T (List Str) := T.fix (fun F x => ref5_Names_B (fun y0 => F (y0)) x) e
def law5_texts_R0 (a1 : (List Str)) (b1 : (List Str)) : Int → T (Int ⊕ (Unit ⊕ Bool))
 | i =>
 .ite (decide (i < (Nat.cast a1.length : Int)))
  (.obl (idxOk i a1.length) <|
 .obl (idxOk i b1.length) <|
 .ite (!(strEq (nth a1 i (dflt .str)) (nth b1 i (dflt .str))))
  (.ret (.inr (.inr false)))
  (.ret (.inl (w64 (i + 1)))))
  (.ret (.inr (.inl ())))
def law5_texts_L0 (a1 : (List Str)) (b1 : (List Str)) (s : Int) : T (Unit ⊕ Bool) := T.loop (law5_texts_R0 a1 b1) s
def law5_texts (a : (List Str)) (b : (List Str)) : T Bool :=
 .ite ((Nat.cast a.length : Int) != (Nat.cast b.length : Int))
  (.ret false)
  (T.bind (law5_texts_L0 a b (0 : Int)) <|
 Sum.elim (fun _ =>
 .ret true)
  (fun x =>
 .ret x))
def slices_Equal_sl_uint32_R0 (s11 : (List Int)) (s21 : (List Int)) (x : Int) : Int → T (Int ⊕ (Unit ⊕ Bool))
 | x1 =>
 .ite (decide (x1 < x))
  (.obl (idxOk x1 s11.length) <|
 .obl (idxOk x1 s21.length) <|
 .ite ((nth s11 x1 (dflt (.int .u32))) != (nth s21 x1 (dflt (.int .u32))))
  (.ret (.inr (.inr false)))
  (.ret (.inl (w64 (x1 + 1)))))
  (.ret (.inr (.inl ())))
def slices_Equal_sl_uint32_L0 (s11 : (List Int)) (s21 : (List Int)) (x : Int) (s : Int) : T (Unit ⊕ Bool) := T.loop (slices_Equal_sl_uint32_R0 s11 s21 x) s
def slices_Equal_sl_uint32 (s1 : (List Int)) (s2 : (List Int)) : T Bool :=
 .ite ((Nat.cast s1.length : Int) != (Nat.cast s2.length : Int))
  (.ret false)
  (T.bind (slices_Equal_sl_uint32_L0 s1 s2 (Nat.cast s1.length : Int) (0 : Int)) <|
 Sum.elim (fun _ =>
 .ret true)
  (fun x2 =>
 .ret x2))
def rat_Same (a : Rat) (b : Rat) : T Bool :=
 T.bind (rat_Norm a) fun r =>
 T.bind (rat_Norm b) fun r1 =>
 .ite (r.1 == r1.1)
  (T.bind (slices_Equal_sl_uint32 r.2.1 r1.2.1) fun r2 =>
 .ite r2
  (T.bind (slices_Equal_sl_uint32 r.2.2.1 r1.2.2.1) fun r3 =>
 .ret r3)
  (.ret false))
  (.ret false)
def slices_EqualFunc_sl_Expr_sl_Expr_R0 (self_expr_Same : AM.Expr → AM.Expr → T Bool) (s21 : (List AM.Expr)) (eq : AM.Expr → AM.Expr → T Bool) (x : (List AM.Expr)) (x1 : Int) : Int → T (Int ⊕ (Unit ⊕ Bool))
 | x2 =>
 .ite (decide (x2 < x1))
  (.obl (idxOk x2 x.length) <|
 .obl (idxOk x2 s21.length) <|
 T.bind (eq (nth x x2 (dflt .expr)) (nth s21 x2 (dflt .expr))) fun r =>
 .ite (!r)
  (.ret (.inr (.inr false)))
  (.ret (.inl (w64 (x2 + 1)))))
  (.ret (.inr (.inl ())))
def slices_EqualFunc_sl_Expr_sl_Expr_L0 (self_expr_Same : AM.Expr → AM.Expr → T Bool) (s21 : (List AM.Expr)) (eq : AM.Expr → AM.Expr → T Bool) (x : (List AM.Expr)) (x1 : Int) (s : Int) : T (Unit ⊕ Bool) := T.loop (slices_EqualFunc_sl_Expr_sl_Expr_R0 self_expr_Same s21 eq x x1) s
def slices_EqualFunc_sl_Expr_sl_Expr (self_expr_Same : AM.Expr → AM.Expr → T Bool) (s1 : (List AM.Expr)) (s2 : (List AM.Expr)) (eq : AM.Expr → AM.Expr → T Bool) : T Bool :=
 .ite ((Nat.cast s1.length : Int) != (Nat.cast s2.length : Int))
  (.ret false)
  (T.bind (slices_EqualFunc_sl_Expr_sl_Expr_L0 self_expr_Same s2 eq s1 (Nat.cast s1.length : Int) (0 : Int)) <|
 Sum.elim (fun _ =>
 .ret true)
  (fun x3 =>
 .ret x3))
def expr_Same_B (self_expr_Same : AM.Expr → AM.Expr → T Bool) (a : AM.Expr) (b : AM.Expr) : T Bool :=
 .ite ((Expr.kind a) == (Expr.kind b))
  (.ite (strEq (Expr.name a) (Expr.name b))
  (T.bind (rat_Same (Expr.num a) (Expr.num b)) fun r =>
 .ite r
  (T.bind ((slices_EqualFunc_sl_Expr_sl_Expr self_expr_Same) (Expr.kids a) (Expr.kids b) (fun z0 z1 => self_expr_Same z0 z1)) fun r1 =>
 .ret r1)
  (.ret false))
  (.ret false))
  (.ret false)
def expr_Same (a : AM.Expr) (b : AM.Expr) : T Bool := T.fix (fun F x => expr_Same_B (fun y0 y1 => F (y0,y1)) x.1 x.2) (a,b)
def ref2_Same (a : Rat) (b : Rat) : T Bool :=
 T.bind (ref2_Norm a) fun r =>
 T.bind (ref2_Norm b) fun r1 =>
 .ite (r.1 == r1.1)
  (T.bind (ref2_limbs r.2.1 r1.2.1) fun r2 =>
 .ite r2
  (T.bind (ref2_limbs r.2.2.1 r1.2.2.1) fun r3 =>
 .ret r3)
  (.ret false))
  (.ret false)
def ref5_Same_R0 (self_ref5_Same : AM.Expr → AM.Expr → T Bool) (a1 : AM.Expr) (b1 : AM.Expr) : Int → T (Int ⊕ (Unit ⊕ Bool))
 | i =>
 .ite (decide (i < (Nat.cast (List.length (Expr.kids a1)) : Int)))
  (.obl (idxOk i (List.length (Expr.kids a1))) <|
 .obl (idxOk i (List.length (Expr.kids b1))) <|
 T.bind (self_ref5_Same (nth (Expr.kids a1) i (dflt .expr)) (nth (Expr.kids b1) i (dflt .expr))) fun r1 =>
 .ite (!r1)
  (.ret (.inr (.inr false)))
  (.ret (.inl (w64 (i + 1)))))
  (.ret (.inr (.inl ())))
def ref5_Same_L0 (self_ref5_Same : AM.Expr → AM.Expr → T Bool) (a1 : AM.Expr) (b1 : AM.Expr) (s : Int) : T (Unit ⊕ Bool) := T.loop (ref5_Same_R0 self_ref5_Same a1 b1) s
def ref5_Same_B (self_ref5_Same : AM.Expr → AM.Expr → T Bool) (a : AM.Expr) (b : AM.Expr) : T Bool :=
 T.bind (.ite ((Expr.kind a) != (Expr.kind b))
  (.ret true)
  (.ite (!(strEq (Expr.name a) (Expr.name b)))
  (.ret true)
  (T.bind (ref2_Same (Expr.num a) (Expr.num b)) fun r =>
 .ite (!r)
  (.ret true)
  (.ret ((Nat.cast (List.length (Expr.kids a)) : Int) != (Nat.cast (List.length (Expr.kids b)) : Int))))) : T (Bool)) fun x =>
 .ite x
  (.ret false)
  (T.bind (ref5_Same_L0 self_ref5_Same a b (0 : Int)) <|
 Sum.elim (fun _ =>
 .ret true)
  (fun x1 =>
 .ret x1))
def ref5_Same (a : AM.Expr) (b : AM.Expr) : T Bool := T.fix (fun F x => ref5_Same_B (fun y0 y1 => F (y0,y1)) x.1 x.2) (a,b)
def expr_parser_blanks_S_R0  : expr_parser → T (expr_parser ⊕ (expr_parser))
 | v =>
 .obl (((decide (v.2.1 < (Nat.cast v.1.length : Int))) = true) → (idxOk v.2.1 v.1.length)) <|
 .ite ((decide (v.2.1 < (Nat.cast v.1.length : Int))) && ((byteAt v.1 v.2.1) == 32))
  (.ret (.inl (v.1,((w64 (v.2.1 + 1)),(v.2.2.1,(v.2.2.2.1,()))))))
  (.ret (.inr v))
def expr_parser_blanks_S_L0  (s : expr_parser) : T (expr_parser) := T.loop (expr_parser_blanks_S_R0 ) s
def expr_parser_blanks_S (p : expr_parser) : T expr_parser :=
 T.bind (expr_parser_blanks_S_L0  p) fun v1 =>
 .ret v1
def strings_IndexByte (s : Str) (c : Int) : T Int := .ret (idxB s (byteOf c))
def expr_parser_takes_S (some : Str) (p : expr_parser) : T (Int × expr_parser) :=
 T.bind (expr_parser_blanks_S p) fun p1 =>
 T.bind (.ite (decide (p1.2.1 < (Nat.cast p1.1.length : Int)))
  (.obl (idxOk p1.2.1 p1.1.length) <|
 T.bind (strings_IndexByte some (byteAt p1.1 p1.2.1)) fun r =>
 .ret ((decide ((0 : Int) ≤ r)),p1))
  (.ret (false,p1)) : T ((Bool × expr_parser))) fun (x,v) =>
 .ite x
  (.obl (idxOk (w64 ((w64 (v.2.1 + 1)) - 1)) v.1.length) <|
 .ret ((byteAt v.1 (w64 ((w64 (v.2.1 + 1)) - 1))),(v.1,((w64 (v.2.1 + 1)),(v.2.2.1,(v.2.2.2.1,()))))))
  (.ret ((0 : Int),v))
def expr_parser_fail_S (e : Int) (at_ : Int) (p : expr_parser) : T (expr_parser ⊕ (expr_stop × expr_parser)) :=
 .ret (.inr ((e,(at_,())),p))
def expr_parser_within_S (p : expr_parser) : T (expr_parser ⊕ (expr_stop × expr_parser)) :=
 .ite (decide ((32 : Int) ≤ (w64 (p.2.2.1 + 1))))
  (T.bind (expr_parser_fail_S (4 : Int) (w64 (p.2.1 - 1)) (p.1,(p.2.1,((w64 (p.2.2.1 + 1)),(p.2.2.2.1,()))))) <|
 Sum.elim (fun p1 =>
 .ret (.inl p1))
  (fun (pv,p2) =>
 .ret (.inr (pv,p2))))
  (.ret (.inl (p.1,(p.2.1,((w64 (p.2.2.1 + 1)),(p.2.2.2.1,()))))))
def expr_parser_while_S_R0 (is : Int → T Bool) (most1 : Int) (from_ : Int) : expr_parser → T (expr_parser ⊕ (expr_parser))
 | v =>
 T.bind (.ite (decide (v.2.1 < (Nat.cast v.1.length : Int)))
  (.ite (decide ((w64 (v.2.1 - from_)) < most1))
  (.obl (idxOk v.2.1 v.1.length) <|
 T.bind (is (byteAt v.1 v.2.1)) fun r =>
 .ret (r,v))
  (.ret (false,v)))
  (.ret (false,v)) : T ((Bool × expr_parser))) fun (x,v1) =>
 .ite x
  (.ret (.inl (v1.1,((w64 (v1.2.1 + 1)),(v1.2.2.1,(v1.2.2.2.1,()))))))
  (.ret (.inr v1))
def expr_parser_while_S_L0 (is : Int → T Bool) (most1 : Int) (from_ : Int) (s : expr_parser) : T (expr_parser) := T.loop (expr_parser_while_S_R0 is most1 from_) s
def expr_parser_while_S (is : Int → T Bool) (most : Int) (p : expr_parser) : T (Str × expr_parser) :=
 T.bind (expr_parser_while_S_L0 is most p.2.1 p) fun v2 =>
 .obl (slOk p.2.1 v2.2.1 v2.1.length) <|
 .ret ((cutS p.2.1 v2.2.1 v2.1),v2)
def strings_CutPrefix (s : Str) (p : Str) : T (Str × Bool) :=
 .ret (trimPre s p,List.isPrefixOf p s)
def strings_Cut (s : Str) (sep : Str) : T (Str × Str × Bool) :=
 .obl (s.length < 4294967281) <|
 .ret (cutSt s sep)
def strings_trimRightByte_R0 (c1 : Int) : Str → T (Str ⊕ (Str))
 | s1 =>
 .obl (((decide ((0 : Int) < (Nat.cast s1.length : Int))) = true) → (idxOk (w64 ((Nat.cast s1.length : Int) - (1 : Int))) s1.length)) <|
 .ite ((decide ((0 : Int) < (Nat.cast s1.length : Int))) && ((byteAt s1 (w64 ((Nat.cast s1.length : Int) - (1 : Int)))) == c1))
  (.obl (slOk (0 : Int) (w64 ((Nat.cast s1.length : Int) - (1 : Int))) s1.length) <|
 .ret (.inl (cutS (0 : Int) (w64 ((Nat.cast s1.length : Int) - (1 : Int))) s1)))
  (.ret (.inr s1))
def strings_trimRightByte_L0 (c1 : Int) (s : Str) : T (Str) := T.loop (strings_trimRightByte_R0 c1) s
def strings_trimRightByte (s : Str) (c : Int) : T Str :=
 T.bind (strings_trimRightByte_L0 c s) fun s2 =>
 .ret s2
def strings_trimLeftByte_R0 (c1 : Int) : Str → T (Str ⊕ (Str))
 | s1 =>
 .obl (((decide ((0 : Int) < (Nat.cast s1.length : Int))) = true) → (idxOk (0 : Int) s1.length)) <|
 .ite ((decide ((0 : Int) < (Nat.cast s1.length : Int))) && ((byteAt s1 (0 : Int)) == c1))
  (.obl (slOk (1 : Int) (Nat.cast s1.length : Int) s1.length) <|
 .ret (.inl (cutS (1 : Int) (Nat.cast s1.length : Int) s1)))
  (.ret (.inr s1))
def strings_trimLeftByte_L0 (c1 : Int) (s : Str) : T (Str) := T.loop (strings_trimLeftByte_R0 c1) s
def strings_trimLeftByte (s : Str) (c : Int) : T Str :=
 T.bind (strings_trimLeftByte_L0 c s) fun s2 =>
 .ret s2
def strings_makeASCIISet (s : Str) : T ((den (arrN .bool 256)) × Bool) :=
 .obl (s.length < 4294967281 ∧ (∀ (j : Nat) b,s[j]? = some b → b.toNat < 128)) <|
 .ret (asciiF s,true)
def strings_asciiSet_contains (as : (den (arrN .bool 256))) (c : Int) : T Bool :=
 .obl (idxOk c (256 : Nat)) <|
 .ret (arrAt .bool (arrN .bool 256) as (Int.toNat c))
def strings_trimRightASCII_R0 (as1 : (den (arrN .bool 256))) : Str → T (Str ⊕ (Str))
 | s1 =>
 .ite (decide ((0 : Int) < (Nat.cast s1.length : Int)))
  (.obl (idxOk (w64 ((Nat.cast s1.length : Int) - (1 : Int))) s1.length) <|
 T.bind (strings_asciiSet_contains as1 (byteAt s1 (w64 ((Nat.cast s1.length : Int) - (1 : Int))))) fun r =>
 .ite (!r)
  (.ret (.inr s1))
  (.obl (slOk (0 : Int) (w64 ((Nat.cast s1.length : Int) - (1 : Int))) s1.length) <|
 .ret (.inl (cutS (0 : Int) (w64 ((Nat.cast s1.length : Int) - (1 : Int))) s1))))
  (.ret (.inr s1))
def strings_trimRightASCII_L0 (as1 : (den (arrN .bool 256))) (s : Str) : T (Str) := T.loop (strings_trimRightASCII_R0 as1) s
def strings_trimRightASCII (s : Str) (as : (den (arrN .bool 256))) : T Str :=
 T.bind (strings_trimRightASCII_L0 as s) fun s2 =>
 .ret s2
def strings_trimLeftASCII_R0 (as1 : (den (arrN .bool 256))) : Str → T (Str ⊕ (Str))
 | s1 =>
 .ite (decide ((0 : Int) < (Nat.cast s1.length : Int)))
  (.obl (idxOk (0 : Int) s1.length) <|
 T.bind (strings_asciiSet_contains as1 (byteAt s1 (0 : Int))) fun r =>
 .ite (!r)
  (.ret (.inr s1))
  (.obl (slOk (1 : Int) (Nat.cast s1.length : Int) s1.length) <|
 .ret (.inl (cutS (1 : Int) (Nat.cast s1.length : Int) s1))))
  (.ret (.inr s1))
def strings_trimLeftASCII_L0 (as1 : (den (arrN .bool 256))) (s : Str) : T (Str) := T.loop (strings_trimLeftASCII_R0 as1) s
def strings_trimLeftASCII (s : Str) (as : (den (arrN .bool 256))) : T Str :=
 T.bind (strings_trimLeftASCII_L0 as s) fun s2 =>
 .ret s2
def strings_Trim (s : Str) (cutset : Str) : T Str :=
 .ite ((strEq s ([] : Str)) || (strEq cutset ([] : Str)))
  (.ret s)
  (.obl ((((Nat.cast cutset.length : Int) == (1 : Int)) = true) → (idxOk (0 : Int) cutset.length)) <|
 .ite (((Nat.cast cutset.length : Int) == (1 : Int)) && (decide ((byteAt cutset (0 : Int)) < (128 : Int))))
  (.obl (idxOk (0 : Int) cutset.length) <|
 T.bind (strings_trimRightByte s (byteAt cutset (0 : Int))) fun r =>
 .obl (idxOk (0 : Int) cutset.length) <|
 T.bind (strings_trimLeftByte r (byteAt cutset (0 : Int))) fun r1 =>
 .ret r1)
  (T.bind (strings_makeASCIISet cutset) fun (r2,ok) =>
 .ite ok
  (T.bind (strings_trimRightASCII s r2) fun r3 =>
 T.bind (strings_trimLeftASCII r3 r2) fun r4 =>
 .ret r4)
  (.fail)))
def nat_Add_R0 (a2 : (List Int)) (b2 : (List Int)) (x : (List Int)) (x1 : Int) : (Int × Int × (List Int)) → T ((Int × Int × (List Int)) ⊕ ((Int × (List Int))))
 | (carry,x2,xs) =>
 .ite (decide (x2 < x1))
  (.obl (idxOk x2 x.length) <|
 .obl (((decide (x2 < (Nat.cast b2.length : Int))) = true) → (idxOk x2 b2.length)) <|
 .obl (idxOk x2 xs.length) <|
 .obl (eOk xs.length xs.length ((0 : Nat) + (Int.toNat x2)) xs.length) <|
 .obl ((0 : Int) ≤ (32 : Int)) <|
 .obl (curOk xs.length (0 : Nat) xs.length (List.length (List.set xs ((0 : Nat) + (Int.toNat x2)) (wu32 (bif (decide (x2 < (Nat.cast b2.length : Int))) then (wu64 ((wu64 (carry + (wu64 (nth x x2 (dflt (.int .u32)))))) + (wu64 (nth b2 x2 (dflt (.int .u32)))))) else (wu64 (carry + (wu64 (nth x x2 (dflt (.int .u32))))))))))) <|
 .obl (xs.length = (List.length (List.set xs ((0 : Nat) + (Int.toNat x2)) (wu32 (bif (decide (x2 < (Nat.cast b2.length : Int))) then (wu64 ((wu64 (carry + (wu64 (nth x x2 (dflt (.int .u32)))))) + (wu64 (nth b2 x2 (dflt (.int .u32)))))) else (wu64 (carry + (wu64 (nth x x2 (dflt (.int .u32))))))))))) <|
 .ret (.inl ((shrI .u64 (bif (decide (x2 < (Nat.cast b2.length : Int))) then (wu64 ((wu64 (carry + (wu64 (nth x x2 (dflt (.int .u32)))))) + (wu64 (nth b2 x2 (dflt (.int .u32)))))) else (wu64 (carry + (wu64 (nth x x2 (dflt (.int .u32))))))) (32 : Int)),((w64 (x2 + 1)),(List.set xs ((0 : Nat) + (Int.toNat x2)) (wu32 (bif (decide (x2 < (Nat.cast b2.length : Int))) then (wu64 ((wu64 (carry + (wu64 (nth x x2 (dflt (.int .u32)))))) + (wu64 (nth b2 x2 (dflt (.int .u32)))))) else (wu64 (carry + (wu64 (nth x x2 (dflt (.int .u32)))))))))))))
  (.obl (curOk xs.length (0 : Nat) xs.length xs.length) <|
 .obl (xs.length = xs.length) <|
 .ret (.inr (carry,xs)))
def nat_Add_L0 (a2 : (List Int)) (b2 : (List Int)) (x : (List Int)) (x1 : Int) (s : (Int × Int × (List Int))) : T ((Int × (List Int))) := T.loop (nat_Add_R0 a2 b2 x x1) s
def nat_Add (a : (List Int)) (b : (List Int)) : T (List Int) :=
 T.bind (nat_trim a) fun a1 =>
 T.bind (nat_trim b) fun b1 =>
 .obl (mkOk (w64 ((Nat.cast (List.length (bif (decide ((Nat.cast a1.length : Int) < (Nat.cast b1.length : Int))) then b1 else a1)) : Int) + (1 : Int))) (w64 ((Nat.cast (List.length (bif (decide ((Nat.cast a1.length : Int) < (Nat.cast b1.length : Int))) then b1 else a1)) : Int) + (1 : Int))) (4 : Nat)) <|
 .obl (curOk (Int.toNat (w64 ((Nat.cast (List.length (bif (decide ((Nat.cast a1.length : Int) < (Nat.cast b1.length : Int))) then b1 else a1)) : Int) + (1 : Int)))) (0 : Nat) (Int.toNat (w64 ((Nat.cast (List.length (bif (decide ((Nat.cast a1.length : Int) < (Nat.cast b1.length : Int))) then b1 else a1)) : Int) + (1 : Int)))) (List.length (List.replicate (Int.toNat (w64 ((Nat.cast (List.length (bif (decide ((Nat.cast a1.length : Int) < (Nat.cast b1.length : Int))) then b1 else a1)) : Int) + (1 : Int)))) (0 : Int)))) <|
 .obl ((Int.toNat (w64 ((Nat.cast (List.length (bif (decide ((Nat.cast a1.length : Int) < (Nat.cast b1.length : Int))) then b1 else a1)) : Int) + (1 : Int)))) = (List.length (List.replicate (Int.toNat (w64 ((Nat.cast (List.length (bif (decide ((Nat.cast a1.length : Int) < (Nat.cast b1.length : Int))) then b1 else a1)) : Int) + (1 : Int)))) (0 : Int)))) <|
 T.bind (nat_Add_L0 (bif (decide ((Nat.cast a1.length : Int) < (Nat.cast b1.length : Int))) then b1 else a1) (bif (decide ((Nat.cast a1.length : Int) < (Nat.cast b1.length : Int))) then a1 else b1) (bif (decide ((Nat.cast a1.length : Int) < (Nat.cast b1.length : Int))) then b1 else a1) (Nat.cast (List.length (bif (decide ((Nat.cast a1.length : Int) < (Nat.cast b1.length : Int))) then b1 else a1)) : Int) ((0 : Int),((0 : Int),(List.replicate (Int.toNat (w64 ((Nat.cast (List.length (bif (decide ((Nat.cast a1.length : Int) < (Nat.cast b1.length : Int))) then b1 else a1)) : Int) + (1 : Int)))) (0 : Int))))) fun (carry1,xs1) =>
 .obl (idxOk (Nat.cast (List.length (bif (decide ((Nat.cast a1.length : Int) < (Nat.cast b1.length : Int))) then b1 else a1)) : Int) xs1.length) <|
 .obl (eOk xs1.length xs1.length ((0 : Nat) + (Int.toNat (Nat.cast (List.length (bif (decide ((Nat.cast a1.length : Int) < (Nat.cast b1.length : Int))) then b1 else a1)) : Int))) xs1.length) <|
 .obl (xs1.length = xs1.length) <|
 T.bind (nat_trim (List.drop (0 : Nat) (List.take ((0 : Nat) + xs1.length) (List.set xs1 ((0 : Nat) + (Int.toNat (Nat.cast (List.length (bif (decide ((Nat.cast a1.length : Int) < (Nat.cast b1.length : Int))) then b1 else a1)) : Int))) (wu32 carry1))))) fun r =>
 .ret r
def nat_Parse_R0 (s1 : Str) (x1 : Int) : ((List Int) × Int) → T (((List Int) × Int) ⊕ ((List Int)))
 | (a,x2) =>
 .ite (decide (x2 < x1))
  (T.bind (nat_Mul a ([(10 : Int)] : List Int)) fun r1 =>
 .obl (idxOk x2 s1.length) <|
 T.bind (nat_Of (wu64 (wu8 ((byteAt s1 x2) - 48)))) fun r2 =>
 T.bind (nat_Add r1 r2) fun a1 =>
 .ret (.inl (a1,(w64 (x2 + 1)))))
  (.ret (.inr a))
def nat_Parse_L0 (s1 : Str) (x1 : Int) (s : ((List Int) × Int)) : T ((List Int)) := T.loop (nat_Parse_R0 s1 x1) s
def nat_Parse (s : Str) : T ((List Int) × Bool) :=
 T.bind (.ite (strEq s ([] : Str))
  (.ret true)
  (.ite (decide ((400 : Int) < (Nat.cast s.length : Int)))
  (.ret true)
  (T.bind (strings_Trim s ([48,49,50,51,52,53,54,55,56,57] : Str)) fun r =>
 .ret (!(strEq r ([] : Str))))) : T (Bool)) fun x =>
 .ite x
  (.ret (([] : List Int),false))
  (T.bind (nat_Parse_L0 s (Nat.cast s.length : Int) (([] : List Int),(0 : Int))) fun a2 =>
 .ret (a2,true))
def dec_Parse (s : Str) : T (Rat × Int) :=
 .ite (decide ((400 : Int) < (Nat.cast s.length : Int)))
  (.ret ((false,(([] : List Int),(([] : List Int),()))),(3 : Int)))
  (T.bind (strings_CutPrefix s ([45] : Str)) fun (s1,neg) =>
 T.bind (strings_Cut s1 ([46] : Str)) fun (whole,part,ok) =>
 .ite ok
  (T.bind (nat_Parse part) fun (r,is) =>
 .obl ((whole.length + part.length) ≤ (4611686018427387904 : Nat)) <|
 T.bind (nat_Parse (cat whole part)) fun (n,both) =>
 .ite ((strEq whole ([] : Str)) || ((!is) || (!both)))
  (.ret ((false,(([] : List Int),(([] : List Int),()))),(2 : Int)))
  (T.bind (dec_ten (Nat.cast part.length : Int)) fun r1 =>
 T.bind (rat_Of neg n r1) fun r2 =>
 .ret (r2,(0 : Int))))
  (T.bind (strings_Cut s1 ([47] : Str)) fun (num,den,ok1) =>
 T.bind (nat_Parse num) fun (n1,is1) =>
 T.bind (nat_Parse (bif (!ok1) then ([49] : Str) else den)) fun (d,both1) =>
 .ite ((!is1) || ((!both1) || ((Nat.cast d.length : Int) == (0 : Int))))
  (.ret ((false,(([] : List Int),(([] : List Int),()))),(2 : Int)))
  (T.bind (rat_Of neg n1 d) fun r3 =>
 .ret (r3,(0 : Int)))))
def expr_parser_number_S (p : expr_parser) : T ((AM.Expr × expr_parser) ⊕ (expr_stop × expr_parser)) :=
 T.bind (expr_parser_while_S (fun z0 => expr_isDigit z0) (Nat.cast p.1.length : Int) p) fun (s,p1) =>
 T.bind (.obl (((decide (p1.2.1 < (Nat.cast p1.1.length : Int))) = true) → (idxOk p1.2.1 p1.1.length)) <|
 .ite ((decide (p1.2.1 < (Nat.cast p1.1.length : Int))) && ((byteAt p1.1 p1.2.1) == 46))
  (T.bind (expr_parser_while_S (fun z0 => expr_isDigit z0) (Nat.cast p1.1.length : Int) (p1.1,((w64 (p1.2.1 + 1)),(p1.2.2.1,(p1.2.2.2.1,()))))) fun (part,p2) =>
 .ite (strEq part ([] : Str))
  (T.bind (expr_parser_fail_S (2 : Int) p2.2.1 p2) <|
 Sum.elim (fun p3 =>
 .obl (((List.length ([46] : Str)) + part.length) ≤ (4611686018427387904 : Nat)) <|
 .obl ((s.length + (List.length (cat ([46] : Str) part))) ≤ (4611686018427387904 : Nat)) <|
 .ret (.inl ((cat s (cat ([46] : Str) part)),(p3,(Expr.mk (0 : Int) (false,(([] : List Int),(([] : List Int),()))) ([] : Str) ([] : List AM.Expr))))))
  (fun (pv,p4) =>
 .ret (.inr (pv,(p4,(Expr.mk (0 : Int) (false,(([] : List Int),(([] : List Int),()))) ([] : Str) ([] : List AM.Expr)))))))
  (.obl (((List.length ([46] : Str)) + part.length) ≤ (4611686018427387904 : Nat)) <|
 .obl ((s.length + (List.length (cat ([46] : Str) part))) ≤ (4611686018427387904 : Nat)) <|
 .ret (.inl ((cat s (cat ([46] : Str) part)),(p2,(Expr.mk (0 : Int) (false,(([] : List Int),(([] : List Int),()))) ([] : Str) ([] : List AM.Expr)))))))
  (.ret (.inl (s,(p1,(Expr.mk (0 : Int) (false,(([] : List Int),(([] : List Int),()))) ([] : Str) ([] : List AM.Expr)))))) : T ((Str × expr_parser × AM.Expr) ⊕ (expr_stop × expr_parser × AM.Expr))) <|
 Sum.elim (fun (s1,v,v1) =>
 .ite (decide ((400 : Int) < (Nat.cast s1.length : Int)))
  (.ret (.inl ((Expr.mk (1 : Int) (false,(([] : List Int),(([] : List Int),()))) ([] : Str) ([] : List AM.Expr)),(v.1,(v.2.1,(v.2.2.1,(true,())))))))
  (T.bind (dec_Parse s1) fun (r,r1) =>
 .ret (.inl ((Expr.mk (1 : Int) (r.1,(r.2.1,(r.2.2.1,()))) ([] : Str) ([] : List AM.Expr)),v))))
  (fun (p5,v2,v3) =>
 .ret (.inr (p5,v2)))
def expr_parser_factor_S_B (self_expr_parser_factor : expr_parser → T ((AM.Expr × expr_parser) ⊕ (expr_stop × expr_parser))) (self_expr_parser_sum : expr_parser → T ((AM.Expr × expr_parser) ⊕ (expr_stop × expr_parser))) (p : expr_parser) : T ((AM.Expr × expr_parser) ⊕ (expr_stop × expr_parser)) :=
 T.bind (expr_parser_takes_S ([45,40] : Str) p) fun (r,p1) =>
 .ite (r == 45)
  (T.bind (expr_parser_within_S p1) <|
 Sum.elim (fun p2 =>
 T.bind (self_expr_parser_factor p2) <|
 Sum.elim (fun (r1,p4) =>
 .ret (.inl ((Expr.mk (7 : Int) (false,(([] : List Int),(([] : List Int),()))) ([] : Str) ([r1] : List AM.Expr)),(p4.1,(p4.2.1,((w64 (p4.2.2.1 - 1)),(p4.2.2.2.1,())))))))
  (fun (pv1,p5) =>
 .ret (.inr (pv1,p5))))
  (fun (pv,p3) =>
 .ret (.inr (pv,p3))))
  (.ite (r == 40)
  (T.bind (expr_parser_within_S p1) <|
 Sum.elim (fun p6 =>
 T.bind (self_expr_parser_sum p6) <|
 Sum.elim (fun (r2,p8) =>
 T.bind (T.bind (expr_parser_takes_S ([41] : Str) p8) fun (r3,p10) =>
 .ite (r3 == 0)
  (T.bind (expr_parser_fail_S (2 : Int) p10.2.1 p10) <|
 Sum.elim (fun p11 =>
 .ret (.inl (p11,((Expr.mk (0 : Int) (false,(([] : List Int),(([] : List Int),()))) ([] : Str) ([] : List AM.Expr)),r2))))
  (fun (pv4,p12) =>
 .ret (.inr (pv4,(p12,((Expr.mk (0 : Int) (false,(([] : List Int),(([] : List Int),()))) ([] : Str) ([] : List AM.Expr)),r2))))))
  (.ret (.inl (p10,((Expr.mk (0 : Int) (false,(([] : List Int),(([] : List Int),()))) ([] : Str) ([] : List AM.Expr)),r2)))) : T ((expr_parser × AM.Expr × AM.Expr) ⊕ (expr_stop × expr_parser × AM.Expr × AM.Expr))) <|
 Sum.elim (fun (v,v1,v2) =>
 .ret (.inl (v2,(v.1,(v.2.1,((w64 (v.2.2.1 - 1)),(v.2.2.2.1,())))))))
  (fun (p13,v3,v4,v5) =>
 .ret (.inr (p13,v3))))
  (fun (pv3,p9) =>
 .ret (.inr (pv3,p9))))
  (fun (pv2,p7) =>
 .ret (.inr (pv2,p7))))
  (T.bind (.ite (decide (p1.2.1 < (Nat.cast p1.1.length : Int)))
  (.obl (idxOk p1.2.1 p1.1.length) <|
 T.bind (expr_isDigit (byteAt p1.1 p1.2.1)) fun r4 =>
 .ret (r4,(p1,(Expr.mk (0 : Int) (false,(([] : List Int),(([] : List Int),()))) ([] : Str) ([] : List AM.Expr)))))
  (.ret (false,(p1,(Expr.mk (0 : Int) (false,(([] : List Int),(([] : List Int),()))) ([] : Str) ([] : List AM.Expr))))) : T ((Bool × expr_parser × AM.Expr))) fun (x,v6,v7) =>
 .ite x
  (T.bind (expr_parser_number_S v6) <|
 Sum.elim (fun (r5,p14) =>
 .ret (.inl (r5,p14)))
  (fun (pv5,p15) =>
 .ret (.inr (pv5,p15))))
  (T.bind (.ite (decide (v6.2.1 < (Nat.cast v6.1.length : Int)))
  (.obl (idxOk v6.2.1 v6.1.length) <|
 T.bind (expr_isLetter (byteAt v6.1 v6.2.1)) fun r6 =>
 .ret (r6,(v6,v7)))
  (.ret (false,(v6,v7))) : T ((Bool × expr_parser × AM.Expr))) fun (x1,v8,v9) =>
 .ite x1
  (T.bind (expr_parser_while_S (fun z0 => expr_isInner z0) (24 : Int) v8) fun (r7,p16) =>
 .ret (.inl ((Expr.mk (2 : Int) (false,(([] : List Int),(([] : List Int),()))) r7 ([] : List AM.Expr)),p16)))
  (T.bind (expr_parser_fail_S (2 : Int) v8.2.1 v8) <|
 Sum.elim (fun p17 =>
 .ret (.inl ((Expr.mk (0 : Int) (false,(([] : List Int),(([] : List Int),()))) ([] : Str) ([] : List AM.Expr)),p17)))
  (fun (pv6,p18) =>
 .ret (.inr (pv6,p18)))))))
def expr_parser_factor_S (self_expr_parser_sum : expr_parser → T ((AM.Expr × expr_parser) ⊕ (expr_stop × expr_parser))) (p : expr_parser) : T ((AM.Expr × expr_parser) ⊕ (expr_stop × expr_parser)) := T.fix (fun F x => expr_parser_factor_S_B (fun y0 => F (y0)) self_expr_parser_sum x) p
def expr_parser_row_expr_parser_factor_S_R0 (self_expr_parser_sum : expr_parser → T ((AM.Expr × expr_parser) ⊕ (expr_stop × expr_parser))) (marks1 : Str) (kinds1 : expr_stop) : (expr_parser × AM.Expr × AM.Expr) → T ((expr_parser × AM.Expr × AM.Expr) ⊕ ((expr_parser × AM.Expr × AM.Expr) ⊕ (expr_stop × expr_parser × AM.Expr × AM.Expr)))
 | (v,v1,v2) =>
 T.bind (expr_parser_takes_S marks1 v) fun (c,p3) =>
 .ite (c == 0)
  (.ret (.inr (.inl (p3,(v2,v2)))))
  (T.bind ((expr_parser_factor_S self_expr_parser_sum) p3) <|
 Sum.elim (fun (r1,p4) =>
 T.bind (strings_IndexByte marks1 c) fun r2 =>
 .obl (idxOk r2 (2 : Nat)) <|
 .ret (.inl (p4,(v1,(Expr.mk (arrAt (.int .i64) tyexpr_stop kinds1 (Int.toNat r2)) (false,(([] : List Int),(([] : List Int),()))) ([] : Str) ([v2,r1] : List AM.Expr))))))
  (fun (pv1,p5) =>
 .ret (.inr (.inr (pv1,(p5,(v1,v2)))))))
def expr_parser_row_expr_parser_factor_S_L0 (self_expr_parser_sum : expr_parser → T ((AM.Expr × expr_parser) ⊕ (expr_stop × expr_parser))) (marks1 : Str) (kinds1 : expr_stop) (s : (expr_parser × AM.Expr × AM.Expr)) : T ((expr_parser × AM.Expr × AM.Expr) ⊕ (expr_stop × expr_parser × AM.Expr × AM.Expr)) := T.loop (expr_parser_row_expr_parser_factor_S_R0 self_expr_parser_sum marks1 kinds1) s
def expr_parser_row_expr_parser_factor_S (self_expr_parser_sum : expr_parser → T ((AM.Expr × expr_parser) ⊕ (expr_stop × expr_parser))) (kid : (Unit)) (marks : Str) (kinds : expr_stop) (p : expr_parser) : T ((AM.Expr × expr_parser) ⊕ (expr_stop × expr_parser)) :=
 T.bind ((expr_parser_factor_S self_expr_parser_sum) p) <|
 Sum.elim (fun (r,p1) =>
 T.bind (expr_parser_row_expr_parser_factor_S_L0 self_expr_parser_sum marks kinds (p1,((Expr.mk (0 : Int) (false,(([] : List Int),(([] : List Int),()))) ([] : Str) ([] : List AM.Expr)),r))) <|
 Sum.elim (fun (v3,v4,v5) =>
 .ret (.inl (v4,v3)))
  (fun (p6,v6,v7,v8) =>
 .ret (.inr (p6,v6))))
  (fun (pv,p2) =>
 .ret (.inr (pv,p2)))
def expr_parser_product_S (self_expr_parser_sum : expr_parser → T ((AM.Expr × expr_parser) ⊕ (expr_stop × expr_parser))) (p : expr_parser) : T ((AM.Expr × expr_parser) ⊕ (expr_stop × expr_parser)) :=
 T.bind ((expr_parser_row_expr_parser_factor_S self_expr_parser_sum) () ([42,47] : Str) ((5 : Int),((6 : Int),())) p) <|
 Sum.elim (fun (r,p1) =>
 .ret (.inl (r,p1)))
  (fun (pv,p2) =>
 .ret (.inr (pv,p2)))
def expr_parser_row_expr_parser_product_S_R0 (self_expr_parser_sum : expr_parser → T ((AM.Expr × expr_parser) ⊕ (expr_stop × expr_parser))) (marks1 : Str) (kinds1 : expr_stop) : (expr_parser × AM.Expr × AM.Expr) → T ((expr_parser × AM.Expr × AM.Expr) ⊕ ((expr_parser × AM.Expr × AM.Expr) ⊕ (expr_stop × expr_parser × AM.Expr × AM.Expr)))
 | (v,v1,v2) =>
 T.bind (expr_parser_takes_S marks1 v) fun (c,p3) =>
 .ite (c == 0)
  (.ret (.inr (.inl (p3,(v2,v2)))))
  (T.bind ((expr_parser_product_S self_expr_parser_sum) p3) <|
 Sum.elim (fun (r1,p4) =>
 T.bind (strings_IndexByte marks1 c) fun r2 =>
 .obl (idxOk r2 (2 : Nat)) <|
 .ret (.inl (p4,(v1,(Expr.mk (arrAt (.int .i64) tyexpr_stop kinds1 (Int.toNat r2)) (false,(([] : List Int),(([] : List Int),()))) ([] : Str) ([v2,r1] : List AM.Expr))))))
  (fun (pv1,p5) =>
 .ret (.inr (.inr (pv1,(p5,(v1,v2)))))))
def expr_parser_row_expr_parser_product_S_L0 (self_expr_parser_sum : expr_parser → T ((AM.Expr × expr_parser) ⊕ (expr_stop × expr_parser))) (marks1 : Str) (kinds1 : expr_stop) (s : (expr_parser × AM.Expr × AM.Expr)) : T ((expr_parser × AM.Expr × AM.Expr) ⊕ (expr_stop × expr_parser × AM.Expr × AM.Expr)) := T.loop (expr_parser_row_expr_parser_product_S_R0 self_expr_parser_sum marks1 kinds1) s
def expr_parser_row_expr_parser_product_S (self_expr_parser_sum : expr_parser → T ((AM.Expr × expr_parser) ⊕ (expr_stop × expr_parser))) (kid : (Unit)) (marks : Str) (kinds : expr_stop) (p : expr_parser) : T ((AM.Expr × expr_parser) ⊕ (expr_stop × expr_parser)) :=
 T.bind ((expr_parser_product_S self_expr_parser_sum) p) <|
 Sum.elim (fun (r,p1) =>
 T.bind (expr_parser_row_expr_parser_product_S_L0 self_expr_parser_sum marks kinds (p1,((Expr.mk (0 : Int) (false,(([] : List Int),(([] : List Int),()))) ([] : Str) ([] : List AM.Expr)),r))) <|
 Sum.elim (fun (v3,v4,v5) =>
 .ret (.inl (v4,v3)))
  (fun (p6,v6,v7,v8) =>
 .ret (.inr (p6,v6))))
  (fun (pv,p2) =>
 .ret (.inr (pv,p2)))
def expr_parser_sum_S_B (self_expr_parser_sum : expr_parser → T ((AM.Expr × expr_parser) ⊕ (expr_stop × expr_parser))) (p : expr_parser) : T ((AM.Expr × expr_parser) ⊕ (expr_stop × expr_parser)) :=
 T.bind ((expr_parser_row_expr_parser_product_S self_expr_parser_sum) () ([43,45] : Str) ((3 : Int),((4 : Int),())) p) <|
 Sum.elim (fun (r,p1) =>
 .ret (.inl (r,p1)))
  (fun (pv,p2) =>
 .ret (.inr (pv,p2)))
def expr_parser_sum_S (p : expr_parser) : T ((AM.Expr × expr_parser) ⊕ (expr_stop × expr_parser)) := T.fix (fun F x => expr_parser_sum_S_B (fun y0 => F (y0)) x) p
def expr_parser_all_f1_H (v : AM.Expr) (v1 : Int) (v2 : Int) : T (AM.Expr × Int × Int) :=
 .ite false
  (.fail)
  (.ret (v,(v1,v2)))
def expr_parser_all_f1_Hp (r : expr_stop) (v : AM.Expr) (v1 : Int) (v2 : Int) : T (AM.Expr × Int × Int) :=
 .ite true
  (.ite (!true)
  (.fail)
  (.ret ((Expr.mk (0 : Int) (false,(([] : List Int),(([] : List Int),()))) ([] : Str) ([] : List AM.Expr)),(r.2.1,r.1))))
  (.ret (v,(v1,v2)))
def expr_parser_all_S (p : expr_parser) : T (AM.Expr × Int × Int × expr_parser) :=
 T.bind (expr_parser_sum_S p) <|
 Sum.elim (fun (r,p1) =>
 .ite (decide (p1.2.1 < (Nat.cast p1.1.length : Int)))
  (T.bind (expr_parser_fail_S (2 : Int) p1.2.1 p1) <|
 Sum.elim (fun p3 =>
 T.bind (expr_parser_all_f1_H r (0 : Int) (0 : Int)) fun (e,at_,x) =>
 .ret (e,(at_,(x,p3))))
  (fun (pv1,p4) =>
 T.bind (expr_parser_all_f1_Hp pv1 r (0 : Int) (0 : Int)) fun (e1,at_1,x1) =>
 .ret (e1,(at_1,(x1,p4)))))
  (T.bind (expr_parser_all_f1_H r (0 : Int) (0 : Int)) fun (e2,at_2,x2) =>
 .ret (e2,(at_2,(x2,p1)))))
  (fun (pv,p2) =>
 T.bind (expr_parser_all_f1_Hp pv (Expr.mk (0 : Int) (false,(([] : List Int),(([] : List Int),()))) ([] : Str) ([] : List AM.Expr)) (0 : Int) (0 : Int)) fun (e3,at_3,x3) =>
 .ret (e3,(at_3,(x3,p2))))
def expr_Parse (s : Str) : T (AM.Expr × Int × Int) :=
 T.bind (expr_parser_all_S (s,((0 : Int),((0 : Int),(false,()))))) fun (r,at_,x,p) =>
 .ite (x != 0)
  (.ret ((Expr.mk (0 : Int) (false,(([] : List Int),(([] : List Int),()))) ([] : Str) ([] : List AM.Expr)),(at_,x)))
  (T.bind (.ite p.2.2.2.1
  (.ret (true,((Expr.mk (0 : Int) (false,(([] : List Int),(([] : List Int),()))) ([] : Str) ([] : List AM.Expr)),(p,r))))
  (T.bind (expr_Is r) fun r1 =>
 .ret ((!r1),((Expr.mk (0 : Int) (false,(([] : List Int),(([] : List Int),()))) ([] : Str) ([] : List AM.Expr)),(p,r)))) : T ((Bool × AM.Expr × expr_parser × AM.Expr))) fun (x1,v,v1,v2) =>
 .ite x1
  (.ret ((Expr.mk (0 : Int) (false,(([] : List Int),(([] : List Int),()))) ([] : Str) ([] : List AM.Expr)),((0 : Int),(3 : Int))))
  (.ret (v2,((0 : Int),(0 : Int)))))
def law5_known  : T Bool :=
 T.bind (expr_Parse ([97,45,40,98,45,99,41,42,50] : Str)) fun (r,at_,x) =>
 .ite (x == 0)
  (.ite (at_ == 0)
  (T.bind (expr_Print r) fun r1 =>
 .ret (strEq r1 ([97,32,45,32,40,98,32,45,32,99,41,32,42,32,50] : Str)))
  (.ret false))
  (.ret false)
def law5_ExprLooks (a : AM.Expr) (b : AM.Expr) : T Bool :=
 T.bind (T.bind (law5_weight a (600 : Int)) fun r =>
 .ite (decide (r < (0 : Int)))
  (.ret true)
  (T.bind (law5_weight b (600 : Int)) fun r1 =>
 .ret (decide (r1 < (0 : Int)))) : T (Bool)) fun x =>
 .ite x
  (.ret true)
  (T.bind (expr_Print a) fun r2 =>
 T.bind (ref5_Print a) fun r3 =>
 .ite (strEq r2 r3)
  (T.bind (expr_Is a) fun r4 =>
 T.bind (ref5_Is a) fun r5 =>
 .ite (r4 == r5)
  (T.bind (expr_Depth a) fun r6 =>
 T.bind (ref5_Depth a) fun r7 =>
 .ite (r6 == r7)
  (T.bind (expr_Nodes a) fun r8 =>
 T.bind (ref5_Nodes a) fun r9 =>
 .ite (r8 == r9)
  (T.bind (expr_Names a) fun r10 =>
 T.bind (ref5_Names a) fun r11 =>
 T.bind (law5_texts r10 r11) fun r12 =>
 .ite r12
  (T.bind (expr_Same a b) fun r13 =>
 T.bind (ref5_Same a b) fun r14 =>
 .ite (r13 == r14)
  (T.bind (expr_Same a a) fun r15 =>
 .ite r15
  (T.bind (law5_known) fun r16 =>
 .ret r16)
  (.ret false))
  (.ret false))
  (.ret false))
  (.ret false))
  (.ret false))
  (.ret false))
  (.ret false))
end Go.AM.Lf
