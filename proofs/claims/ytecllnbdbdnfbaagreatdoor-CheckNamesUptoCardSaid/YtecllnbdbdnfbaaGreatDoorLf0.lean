/-
  The program's functions as trees in plain Lean, part 0: printed by a program of ours.
-/
import Derived.Test.YtecllnbdbdnfbaaGreatDoorAmA
set_option linter.unusedVariables false
noncomputable section
namespace Go.AM.Lf
abbrev tyerrors_errorString : Ty := (.cons .str .nil)
abbrev errors_errorString := den tyerrors_errorString
abbrev tyruntime_errorAddressString : Ty := (.cons .str (.cons (.int .u64) .nil))
abbrev runtime_errorAddressString := den tyruntime_errorAddressString
abbrev tySwitch : Ty := (.cons .str (.cons .bool .nil))
abbrev Switch := den tySwitch
abbrev tyPage : Ty := (.cons .str tyerrors_errorString)
abbrev Page := den tyPage
abbrev tyruntime_boundsError : Ty := (.cons (.int .i64) (.cons (.int .i64) (.cons .bool (.cons (.int .u8) .nil))))
abbrev runtime_boundsError := den tyruntime_boundsError
abbrev tyRat : Ty := (.cons .bool (.cons (.sl (.int .u32)) (.cons (.sl (.int .u32)) .nil)))
abbrev Rat := den tyRat
abbrev tyField : Ty := (.cons .str (.cons (.int .i64) (.cons .bool (.cons (.int .i64) .nil))))
abbrev Field := den tyField
abbrev tyRule : Ty := (.cons .str (.cons (.int .i64) (.cons .str (.cons .expr (.cons .expr .nil)))))
abbrev Rule := den tyRule
abbrev tyCheck : Ty := (.cons .str (.cons (.int .i64) (.cons (.int .i64) (.cons .expr (.cons .expr .nil)))))
abbrev Check := den tyCheck
abbrev tyParam : Ty := (.cons .str (.cons tyRat .nil))
abbrev Param := den tyParam
abbrev tyForm : Ty := (.cons (.sl tySwitch) (.cons (.sl tyParam) (.cons (.sl tyPage) (.cons (.sl tyField) (.cons (.sl tyRule) (.cons (.sl tyCheck) .nil))))))
abbrev Form := den tyForm
def law7_weight_R0 (self_law7_weight : AM.Expr → Int → T Int) (e1 : AM.Expr) : (Int × Int) → T ((Int × Int) ⊕ (Int))
 | (left1,i) =>
 .ite ((decide (i < (Nat.cast (List.length (Expr.kids e1)) : Int))) && (decide ((0 : Int) ≤ left1)))
  (.obl (idxOk i (List.length (Expr.kids e1))) <|
 T.bind (self_law7_weight (nth (Expr.kids e1) i (dflt .expr)) left1) fun left2 =>
 .ret (.inl (left2,(w64 (i + 1)))))
  (.ret (.inr left1))
def law7_weight_L0 (self_law7_weight : AM.Expr → Int → T Int) (e1 : AM.Expr) (s : (Int × Int)) : T (Int) := T.loop (law7_weight_R0 self_law7_weight e1) s
def law7_weight_B (self_law7_weight : AM.Expr → Int → T Int) (e : AM.Expr) (left : Int) : T Int :=
 T.bind (law7_weight_L0 self_law7_weight e ((w64 ((w64 ((w64 ((w64 (left - 3)) - (Nat.cast (List.length (Expr.name e)) : Int))) - (w64 ((8 : Int) * (Nat.cast (List.length (Expr.num e).2.1) : Int))))) - (w64 ((8 : Int) * (Nat.cast (List.length (Expr.num e).2.2.1) : Int))))),(0 : Int))) fun left3 =>
 .ret left3
def law7_weight (e : AM.Expr) (left : Int) : T Int := T.fix (fun F x => law7_weight_B (fun y0 y1 => F (y0,y1)) x.1 x.2) (e,left)
def law7_heavy_R0 (f1 : Form) : (Int × Int) → T ((Int × Int) ⊕ (Int))
 | (n,i) =>
 .ite ((decide (i < (Nat.cast f1.2.1.length : Int))) && (decide ((0 : Int) ≤ n)))
  (.obl (idxOk i f1.2.1.length) <|
 .obl (idxOk i f1.2.1.length) <|
 .obl (idxOk i f1.2.1.length) <|
 .ret (.inl ((w64 ((w64 ((w64 (n - (w64 ((8 : Int) * (Nat.cast (List.length (nth f1.2.1 i (dflt tyParam)).2.1.2.1) : Int))))) - (w64 ((8 : Int) * (Nat.cast (List.length (nth f1.2.1 i (dflt tyParam)).2.1.2.2.1) : Int))))) - (Nat.cast (List.length (nth f1.2.1 i (dflt tyParam)).1) : Int))),(w64 (i + 1)))))
  (.ret (.inr n))
def law7_heavy_L0 (f1 : Form) (s : (Int × Int)) : T (Int) := T.loop (law7_heavy_R0 f1) s
def law7_heavy_R1 (f2 : Form) : (Int × Int) → T ((Int × Int) ⊕ (Int))
 | (n2,i1) =>
 .ite ((decide (i1 < (Nat.cast f2.1.length : Int))) && (decide ((0 : Int) ≤ n2)))
  (.obl (idxOk i1 f2.1.length) <|
 .ret (.inl ((w64 (n2 - (Nat.cast (List.length (nth f2.1 i1 (dflt tySwitch)).1) : Int))),(w64 (i1 + 1)))))
  (.ret (.inr n2))
def law7_heavy_L1 (f2 : Form) (s : (Int × Int)) : T (Int) := T.loop (law7_heavy_R1 f2) s
def law7_heavy_R2 (f3 : Form) : (Int × Int) → T ((Int × Int) ⊕ (Int))
 | (n4,i2) =>
 .ite ((decide (i2 < (Nat.cast f3.2.2.1.length : Int))) && (decide ((0 : Int) ≤ n4)))
  (.obl (idxOk i2 f3.2.2.1.length) <|
 .obl (idxOk i2 f3.2.2.1.length) <|
 .ret (.inl ((w64 ((w64 (n4 - (Nat.cast (List.length (nth f3.2.2.1 i2 (dflt tyPage)).1) : Int))) - (Nat.cast (List.length (nth f3.2.2.1 i2 (dflt tyPage)).2.1) : Int))),(w64 (i2 + 1)))))
  (.ret (.inr n4))
def law7_heavy_L2 (f3 : Form) (s : (Int × Int)) : T (Int) := T.loop (law7_heavy_R2 f3) s
def law7_heavy_R3 (f4 : Form) : (Int × Int) → T ((Int × Int) ⊕ (Int))
 | (n6,i3) =>
 .ite ((decide (i3 < (Nat.cast f4.2.2.2.1.length : Int))) && (decide ((0 : Int) ≤ n6)))
  (.obl (idxOk i3 f4.2.2.2.1.length) <|
 .ret (.inl ((w64 (n6 - (Nat.cast (List.length (nth f4.2.2.2.1 i3 (dflt tyField)).1) : Int))),(w64 (i3 + 1)))))
  (.ret (.inr n6))
def law7_heavy_L3 (f4 : Form) (s : (Int × Int)) : T (Int) := T.loop (law7_heavy_R3 f4) s
def law7_heavy_R4 (f5 : Form) : (Int × Int) → T ((Int × Int) ⊕ (Int))
 | (n8,i4) =>
 .ite ((decide (i4 < (Nat.cast f5.2.2.2.2.1.length : Int))) && (decide ((0 : Int) ≤ n8)))
  (.obl (idxOk i4 f5.2.2.2.2.1.length) <|
 .obl (idxOk i4 f5.2.2.2.2.1.length) <|
 .obl (idxOk i4 f5.2.2.2.2.1.length) <|
 .obl (idxOk i4 f5.2.2.2.2.1.length) <|
 T.bind (law7_weight (nth f5.2.2.2.2.1 i4 (dflt tyRule)).2.2.2.1 (w64 ((w64 (n8 - (Nat.cast (List.length (nth f5.2.2.2.2.1 i4 (dflt tyRule)).1) : Int))) - (Nat.cast (List.length (nth f5.2.2.2.2.1 i4 (dflt tyRule)).2.2.1) : Int)))) fun r =>
 T.bind (law7_weight (nth f5.2.2.2.2.1 i4 (dflt tyRule)).2.2.2.2.1 r) fun n9 =>
 .ret (.inl (n9,(w64 (i4 + 1)))))
  (.ret (.inr n8))
def law7_heavy_L4 (f5 : Form) (s : (Int × Int)) : T (Int) := T.loop (law7_heavy_R4 f5) s
def law7_heavy_R5 (f6 : Form) : (Int × Int) → T ((Int × Int) ⊕ (Int))
 | (n11,i5) =>
 .ite ((decide (i5 < (Nat.cast f6.2.2.2.2.2.1.length : Int))) && (decide ((0 : Int) ≤ n11)))
  (.obl (idxOk i5 f6.2.2.2.2.2.1.length) <|
 .obl (idxOk i5 f6.2.2.2.2.2.1.length) <|
 .obl (idxOk i5 f6.2.2.2.2.2.1.length) <|
 T.bind (law7_weight (nth f6.2.2.2.2.2.1 i5 (dflt tyCheck)).2.2.2.1 (w64 (n11 - (Nat.cast (List.length (nth f6.2.2.2.2.2.1 i5 (dflt tyCheck)).1) : Int)))) fun r1 =>
 T.bind (law7_weight (nth f6.2.2.2.2.2.1 i5 (dflt tyCheck)).2.2.2.2.1 r1) fun n12 =>
 .ret (.inl (n12,(w64 (i5 + 1)))))
  (.ret (.inr n11))
def law7_heavy_L5 (f6 : Form) (s : (Int × Int)) : T (Int) := T.loop (law7_heavy_R5 f6) s
def law7_heavy (f : Form) : T Bool :=
 T.bind (law7_heavy_L0 f ((w64 ((600 : Int) - (w64 ((20 : Int) * (w64 ((w64 ((w64 ((w64 ((w64 ((Nat.cast f.1.length : Int) + (Nat.cast f.2.1.length : Int))) + (Nat.cast f.2.2.1.length : Int))) + (Nat.cast f.2.2.2.1.length : Int))) + (Nat.cast f.2.2.2.2.1.length : Int))) + (Nat.cast f.2.2.2.2.2.1.length : Int))))))),(0 : Int))) fun n1 =>
 T.bind (law7_heavy_L1 f (n1,(0 : Int))) fun n3 =>
 T.bind (law7_heavy_L2 f (n3,(0 : Int))) fun n5 =>
 T.bind (law7_heavy_L3 f (n5,(0 : Int))) fun n7 =>
 T.bind (law7_heavy_L4 f (n7,(0 : Int))) fun n10 =>
 T.bind (law7_heavy_L5 f (n10,(0 : Int))) fun n13 =>
 .ret (decide (n13 < (0 : Int)))
def expr_isLetter (c : Int) : T Bool :=
 .ret ((decide ((97 : Int) ≤ c)) && (decide (c ≤ (122 : Int))))
def expr_isDigit (c : Int) : T Bool :=
 .ret ((decide ((48 : Int) ≤ c)) && (decide (c ≤ (57 : Int))))
def expr_isInner (c : Int) : T Bool :=
 T.bind (expr_isLetter c) fun r =>
 .ite r
  (.ret true)
  (T.bind (expr_isDigit c) fun r1 =>
 .ite r1
  (.ret true)
  (.ret (c == 95)))
def expr_Name_R0 (s1 : Str) (x1 : Int) : Int → T (Int ⊕ (Unit ⊕ Bool))
 | x2 =>
 .ite (decide (x2 < x1))
  (.obl (idxOk x2 s1.length) <|
 T.bind (expr_isInner (byteAt s1 x2)) fun r1 =>
 .ite (!r1)
  (.ret (.inr (.inr false)))
  (.ret (.inl (w64 (x2 + 1)))))
  (.ret (.inr (.inl ())))
def expr_Name_L0 (s1 : Str) (x1 : Int) (s : Int) : T (Unit ⊕ Bool) := T.loop (expr_Name_R0 s1 x1) s
def expr_Name (s : Str) : T Bool :=
 T.bind (.ite (strEq s ([] : Str))
  (.ret true)
  (.ite (decide ((24 : Int) < (Nat.cast s.length : Int)))
  (.ret true)
  (.obl (idxOk (0 : Int) s.length) <|
 T.bind (expr_isLetter (byteAt s (0 : Int))) fun r =>
 .ret (!r))) : T (Bool)) fun x =>
 .ite x
  (.ret false)
  (T.bind (expr_Name_L0 s (Nat.cast s.length : Int) (0 : Int)) <|
 Sum.elim (fun _ =>
 .ret true)
  (fun x3 =>
 .ret x3))
def sheet_heads_f1 (s : Switch) : T Bool :=
 T.bind (expr_Name s.1) fun r =>
 .ret (!r)
def slices_IndexFunc_sl_Switch_R0 (s1 : (List Switch)) (f : Switch → T Bool) (x : Int) : Int → T (Int ⊕ (Unit ⊕ Int))
 | x1 =>
 .ite (decide (x1 < x))
  (.obl (idxOk x1 s1.length) <|
 T.bind (f (nth s1 x1 (dflt tySwitch))) fun r =>
 .ite r
  (.ret (.inr (.inr x1)))
  (.ret (.inl (w64 (x1 + 1)))))
  (.ret (.inr (.inl ())))
def slices_IndexFunc_sl_Switch_L0 (s1 : (List Switch)) (f : Switch → T Bool) (x : Int) (s : Int) : T (Unit ⊕ Int) := T.loop (slices_IndexFunc_sl_Switch_R0 s1 f x) s
def slices_IndexFunc_sl_Switch (s : (List Switch)) (f : Switch → T Bool) : T Int :=
 T.bind (slices_IndexFunc_sl_Switch_L0 s f (Nat.cast s.length : Int) (0 : Int)) <|
 Sum.elim (fun _ =>
 .ret (-1 : Int))
  (fun x2 =>
 .ret x2)
def slices_ContainsFunc_sl_Switch (s : (List Switch)) (f : Switch → T Bool) : T Bool :=
 T.bind (slices_IndexFunc_sl_Switch s f) fun r =>
 .ret (decide ((0 : Int) ≤ r))
def nat_Is (a : (List Int)) : T Bool :=
 .obl ((((Nat.cast a.length : Int) == (0 : Int)) = false) → (idxOk (w64 ((Nat.cast a.length : Int) - (1 : Int))) a.length)) <|
 .ret (((Nat.cast a.length : Int) == (0 : Int)) || ((nth a (w64 ((Nat.cast a.length : Int) - (1 : Int))) (dflt (.int .u32))) != 0))
def nat_trim_R0  : (List Int) → T ((List Int) ⊕ ((List Int)))
 | a1 =>
 T.bind (nat_Is a1) fun r =>
 .ite (!r)
  (.obl (slOk (0 : Int) (w64 ((Nat.cast a1.length : Int) - (1 : Int))) a1.length) <|
 .ret (.inl (cutL (e := (.int .u32)) (0 : Int) (w64 ((Nat.cast a1.length : Int) - (1 : Int))) a1)))
  (.ret (.inr a1))
def nat_trim_L0  (s : (List Int)) : T ((List Int)) := T.loop (nat_trim_R0 ) s
def nat_trim (a : (List Int)) : T (List Int) :=
 T.bind (nat_trim_L0  a) fun a2 =>
 .ret a2
def slices_Clone_sl_uint32 (s : (List Int)) : T (List Int) :=
 .obl (s = [] → ∀ r,T.leads (.obl (appOk (0 : Nat) (0 : Nat) (0 : Nat) (0 : Nat) (0 : Nat) s.length (4 : Nat)) <|
 .obl (((0 : Nat) + s.length) = ((0 : Nat) + s.length)) <|
 .ret (List.drop (0 : Nat) (List.take ((0 : Nat) + ((0 : Nat) + s.length)) s)) : T _) r → T.leads (.ret ([] : List Int) : T _) r) <|
 .obl (appOk (0 : Nat) (0 : Nat) (0 : Nat) (0 : Nat) (0 : Nat) s.length (4 : Nat)) <|
 .obl (((0 : Nat) + s.length) = ((0 : Nat) + s.length)) <|
 .ret (List.drop (0 : Nat) (List.take ((0 : Nat) + ((0 : Nat) + s.length)) s))
def nat_Trim (a : (List Int)) : T (List Int) :=
 T.bind (nat_trim a) fun r =>
 T.bind (slices_Clone_sl_uint32 r) fun r1 =>
 .ret r1
def nat_Cmp_R0 (a2 : (List Int)) (b2 : (List Int)) : Int → T (Int ⊕ (Unit ⊕ Int))
 | i =>
 .ite (decide ((0 : Int) ≤ i))
  (.obl (idxOk i a2.length) <|
 .obl (idxOk i b2.length) <|
 .ite ((nth a2 i (dflt (.int .u32))) != (nth b2 i (dflt (.int .u32))))
  (.obl (idxOk i a2.length) <|
 .obl (idxOk i b2.length) <|
 .ite (decide ((nth a2 i (dflt (.int .u32))) < (nth b2 i (dflt (.int .u32)))))
  (.ret (.inr (.inr (-1 : Int))))
  (.ret (.inr (.inr (1 : Int)))))
  (.ret (.inl (w64 (i - 1)))))
  (.ret (.inr (.inl ())))
def nat_Cmp_L0 (a2 : (List Int)) (b2 : (List Int)) (s : Int) : T (Unit ⊕ Int) := T.loop (nat_Cmp_R0 a2 b2) s
def nat_Cmp (a : (List Int)) (b : (List Int)) : T Int :=
 T.bind (nat_trim a) fun a1 =>
 T.bind (nat_trim b) fun b1 =>
 .ite ((Nat.cast a1.length : Int) != (Nat.cast b1.length : Int))
  (.ite (decide ((Nat.cast a1.length : Int) < (Nat.cast b1.length : Int)))
  (.ret (-1 : Int))
  (.ret (1 : Int)))
  (T.bind (nat_Cmp_L0 a1 b1 (w64 ((Nat.cast a1.length : Int) - (1 : Int)))) <|
 Sum.elim (fun _ =>
 .ret (0 : Int))
  (fun x =>
 .ret x))
def math_bits_Div32 (hi : Int) (lo : Int) (y : Int) : T (Int × Int) :=
 .ite ((y != 0) && (decide (y ≤ hi)))
  (.fail)
  (.obl ((0 : Int) ≤ (32 : Int)) <|
 .obl ((wu64 y) ≠ (0 : Int)) <|
 .obl ((wu64 y) ≠ (0 : Int)) <|
 .ret ((wu32 (wu64 (Int.tdiv (orI .u64 (shlI .u64 (wu64 hi) (32 : Int)) (wu64 lo)) (wu64 y)))),(wu32 (Int.tmod (orI .u64 (shlI .u64 (wu64 hi) (32 : Int)) (wu64 lo)) (wu64 y)))))
def nat_small_R0 (a1 : (List Int)) (b1 : Int) : (Int × Int × (List Int)) → T ((Int × Int × (List Int)) ⊕ ((Int × (List Int))))
 | (rest,i,xs) =>
 .ite (decide ((0 : Int) ≤ i))
  (.obl (idxOk i a1.length) <|
 T.bind (math_bits_Div32 rest (nth a1 i (dflt (.int .u32))) b1) fun (r,rest1) =>
 .obl (idxOk i xs.length) <|
 .obl (eOk xs.length xs.length ((0 : Nat) + (Int.toNat i)) xs.length) <|
 .obl (curOk xs.length (0 : Nat) xs.length (List.length (List.set xs ((0 : Nat) + (Int.toNat i)) r))) <|
 .obl (xs.length = (List.length (List.set xs ((0 : Nat) + (Int.toNat i)) r))) <|
 .ret (.inl (rest1,((w64 (i - 1)),(List.set xs ((0 : Nat) + (Int.toNat i)) r)))))
  (.obl (curOk xs.length (0 : Nat) xs.length xs.length) <|
 .obl (xs.length = xs.length) <|
 .ret (.inr (rest,xs)))
def nat_small_L0 (a1 : (List Int)) (b1 : Int) (s : (Int × Int × (List Int))) : T ((Int × (List Int))) := T.loop (nat_small_R0 a1 b1) s
def nat_small (a : (List Int)) (b : Int) : T ((List Int) × Int) :=
 .obl (mkOk (Nat.cast a.length : Int) (Nat.cast a.length : Int) (4 : Nat)) <|
 .obl (curOk (Int.toNat (Nat.cast a.length : Int)) (0 : Nat) (Int.toNat (Nat.cast a.length : Int)) (List.length (List.replicate (Int.toNat (Nat.cast a.length : Int)) (0 : Int)))) <|
 .obl ((Int.toNat (Nat.cast a.length : Int)) = (List.length (List.replicate (Int.toNat (Nat.cast a.length : Int)) (0 : Int)))) <|
 T.bind (nat_small_L0 a b ((0 : Int),((w64 ((Nat.cast a.length : Int) - (1 : Int))),(List.replicate (Int.toNat (Nat.cast a.length : Int)) (0 : Int))))) fun (rest2,xs1) =>
 .obl (xs1.length = xs1.length) <|
 T.bind (nat_trim (List.drop (0 : Nat) (List.take ((0 : Nat) + xs1.length) xs1))) fun r1 =>
 .ret (r1,rest2)
def nat_Of (n : Int) : T (List Int) :=
 .obl ((0 : Int) ≤ (32 : Int)) <|
 T.bind (nat_trim ([(wu32 n),(wu32 (shrI .u64 n (32 : Int)))] : List Int)) fun r =>
 .ret r
def math_bits_Len32 (x : Int) : T Int :=
 .obl (((decide ((65536 : Int) ≤ x)) = true) → ((0 : Int) ≤ (16 : Int))) <|
 .obl (((decide ((256 : Int) ≤ (bif (decide ((65536 : Int) ≤ x)) then (shrI .u32 x (16 : Int)) else x))) = true) → ((0 : Int) ≤ (8 : Int))) <|
 .obl (idxOk (wu8 (bif (decide ((256 : Int) ≤ (bif (decide ((65536 : Int) ≤ x)) then (shrI .u32 x (16 : Int)) else x))) then (shrI .u32 (bif (decide ((65536 : Int) ≤ x)) then (shrI .u32 x (16 : Int)) else x) (8 : Int)) else (bif (decide ((65536 : Int) ≤ x)) then (shrI .u32 x (16 : Int)) else x))) (List.length ([0,1,2,2,3,3,3,3,4,4,4,4,4,4,4,4,5,5,5,5,5,5,5,5,5,5,5,5,5,5,5,5,6,6,6,6,6,6,6,6,6,6,6,6,6,6,6,6,6,6,6,6,6,6,6,6,6,6,6,6,6,6,6,6,7,7,7,7,7,7,7,7,7,7,7,7,7,7,7,7,7,7,7,7,7,7,7,7,7,7,7,7,7,7,7,7,7,7,7,7,7,7,7,7,7,7,7,7,7,7,7,7,7,7,7,7,7,7,7,7,7,7,7,7,7,7,7,7,8,8,8,8,8,8,8,8,8,8,8,8,8,8,8,8,8,8,8,8,8,8,8,8,8,8,8,8,8,8,8,8,8,8,8,8,8,8,8,8,8,8,8,8,8,8,8,8,8,8,8,8,8,8,8,8,8,8,8,8,8,8,8,8,8,8,8,8,8,8,8,8,8,8,8,8,8,8,8,8,8,8,8,8,8,8,8,8,8,8,8,8,8,8,8,8,8,8,8,8,8,8,8,8,8,8,8,8,8,8,8,8,8,8,8,8,8,8,8,8,8,8,8,8,8,8,8,8] : Str))) <|
 .ret (w64 ((bif (decide ((256 : Int) ≤ (bif (decide ((65536 : Int) ≤ x)) then (shrI .u32 x (16 : Int)) else x))) then (w64 ((bif (decide ((65536 : Int) ≤ x)) then (16 : Int) else (0 : Int)) + 8)) else (bif (decide ((65536 : Int) ≤ x)) then (16 : Int) else (0 : Int))) + (w64 (byteAt ([0,1,2,2,3,3,3,3,4,4,4,4,4,4,4,4,5,5,5,5,5,5,5,5,5,5,5,5,5,5,5,5,6,6,6,6,6,6,6,6,6,6,6,6,6,6,6,6,6,6,6,6,6,6,6,6,6,6,6,6,6,6,6,6,7,7,7,7,7,7,7,7,7,7,7,7,7,7,7,7,7,7,7,7,7,7,7,7,7,7,7,7,7,7,7,7,7,7,7,7,7,7,7,7,7,7,7,7,7,7,7,7,7,7,7,7,7,7,7,7,7,7,7,7,7,7,7,7,8,8,8,8,8,8,8,8,8,8,8,8,8,8,8,8,8,8,8,8,8,8,8,8,8,8,8,8,8,8,8,8,8,8,8,8,8,8,8,8,8,8,8,8,8,8,8,8,8,8,8,8,8,8,8,8,8,8,8,8,8,8,8,8,8,8,8,8,8,8,8,8,8,8,8,8,8,8,8,8,8,8,8,8,8,8,8,8,8,8,8,8,8,8,8,8,8,8,8,8,8,8,8,8,8,8,8,8,8,8,8,8,8,8,8,8,8,8,8,8,8,8,8,8,8,8,8,8] : Str) (wu8 (bif (decide ((256 : Int) ≤ (bif (decide ((65536 : Int) ≤ x)) then (shrI .u32 x (16 : Int)) else x))) then (shrI .u32 (bif (decide ((65536 : Int) ≤ x)) then (shrI .u32 x (16 : Int)) else x) (8 : Int)) else (bif (decide ((65536 : Int) ≤ x)) then (shrI .u32 x (16 : Int)) else x)))))))
def math_bits_LeadingZeros32 (x : Int) : T Int :=
 T.bind (math_bits_Len32 x) fun r =>
 .ret (w64 ((32 : Int) - r))
def nat_left_S_R0 (by_1 : Int) (n1 : Int) (x : (List Int)) (x1 : Int) : (Int × (List Int)) → T ((Int × (List Int)) ⊕ ((List Int)))
 | (x2,xs) =>
 .ite (decide (x2 < x1))
  (.obl (idxOk x2 x.length) <|
 .obl ((0 : Int) ≤ by_1) <|
 .obl (idxOk x2 xs.length) <|
 .obl (eOk xs.length xs.length ((0 : Nat) + (Int.toNat x2)) xs.length) <|
 .obl (idxOk x2 xs.length) <|
 .obl (eOk xs.length xs.length ((0 : Nat) + (Int.toNat x2)) xs.length) <|
 .ite (decide ((w64 (x2 + 1)) < n1))
  (.obl ((0 : Int) ≤ (32 : Int)) <|
 .obl (idxOk (w64 (x2 + 1)) xs.length) <|
 .obl (eOk xs.length xs.length ((0 : Nat) + (Int.toNat (w64 (x2 + 1)))) (List.length (List.set xs ((0 : Nat) + (Int.toNat x2)) (orI .u32 (nthN xs ((0 : Nat) + (Int.toNat x2)) (dflt (.int .u32))) (wu32 (shlI .u64 (wu64 (nth x x2 (dflt (.int .u32)))) by_1)))))) <|
 .obl (curOk xs.length (0 : Nat) xs.length (List.length (List.set (List.set xs ((0 : Nat) + (Int.toNat x2)) (orI .u32 (nthN xs ((0 : Nat) + (Int.toNat x2)) (dflt (.int .u32))) (wu32 (shlI .u64 (wu64 (nth x x2 (dflt (.int .u32)))) by_1)))) ((0 : Nat) + (Int.toNat (w64 (x2 + 1)))) (wu32 (shrI .u64 (shlI .u64 (wu64 (nth x x2 (dflt (.int .u32)))) by_1) (32 : Int)))))) <|
 .obl (xs.length = (List.length (List.set (List.set xs ((0 : Nat) + (Int.toNat x2)) (orI .u32 (nthN xs ((0 : Nat) + (Int.toNat x2)) (dflt (.int .u32))) (wu32 (shlI .u64 (wu64 (nth x x2 (dflt (.int .u32)))) by_1)))) ((0 : Nat) + (Int.toNat (w64 (x2 + 1)))) (wu32 (shrI .u64 (shlI .u64 (wu64 (nth x x2 (dflt (.int .u32)))) by_1) (32 : Int)))))) <|
 .ret (.inl ((w64 (x2 + 1)),(List.set (List.set xs ((0 : Nat) + (Int.toNat x2)) (orI .u32 (nthN xs ((0 : Nat) + (Int.toNat x2)) (dflt (.int .u32))) (wu32 (shlI .u64 (wu64 (nth x x2 (dflt (.int .u32)))) by_1)))) ((0 : Nat) + (Int.toNat (w64 (x2 + 1)))) (wu32 (shrI .u64 (shlI .u64 (wu64 (nth x x2 (dflt (.int .u32)))) by_1) (32 : Int)))))))
  (.obl (curOk xs.length (0 : Nat) xs.length (List.length (List.set xs ((0 : Nat) + (Int.toNat x2)) (orI .u32 (nthN xs ((0 : Nat) + (Int.toNat x2)) (dflt (.int .u32))) (wu32 (shlI .u64 (wu64 (nth x x2 (dflt (.int .u32)))) by_1)))))) <|
 .obl (xs.length = (List.length (List.set xs ((0 : Nat) + (Int.toNat x2)) (orI .u32 (nthN xs ((0 : Nat) + (Int.toNat x2)) (dflt (.int .u32))) (wu32 (shlI .u64 (wu64 (nth x x2 (dflt (.int .u32)))) by_1)))))) <|
 .ret (.inl ((w64 (x2 + 1)),(List.set xs ((0 : Nat) + (Int.toNat x2)) (orI .u32 (nthN xs ((0 : Nat) + (Int.toNat x2)) (dflt (.int .u32))) (wu32 (shlI .u64 (wu64 (nth x x2 (dflt (.int .u32)))) by_1))))))))
  (.obl (curOk xs.length (0 : Nat) xs.length xs.length) <|
 .obl (xs.length = xs.length) <|
 .ret (.inr xs))
def nat_left_S_L0 (by_1 : Int) (n1 : Int) (x : (List Int)) (x1 : Int) (s : (Int × (List Int))) : T ((List Int)) := T.loop (nat_left_S_R0 by_1 n1 x x1) s
def nat_left_S (a : (List Int)) (by_ : Int) (n : Int) : T (List Int) :=
 .obl (mkOk n n (4 : Nat)) <|
 .obl (curOk (Int.toNat n) (0 : Nat) (Int.toNat n) (List.length (List.replicate (Int.toNat n) (0 : Int)))) <|
 .obl ((Int.toNat n) = (List.length (List.replicate (Int.toNat n) (0 : Int)))) <|
 T.bind (nat_left_S_L0 by_ n a (Nat.cast a.length : Int) ((0 : Int),(List.replicate (Int.toNat n) (0 : Int)))) fun xs1 =>
 .obl (curOk xs1.length (0 : Nat) xs1.length xs1.length) <|
 .obl (xs1.length = xs1.length) <|
 .ret xs1
def nat_guess_R0 (low1 : Int) (b11 : Int) (b21 : Int) : (Int × Int) → T ((Int × Int) ⊕ (Int))
 | (q,r) =>
 .obl (((0 : Int) ≤ (32 : Int)) ∧ ((((shrI .u64 q (32 : Int)) != 0) = false) → ((0 : Int) ≤ (32 : Int)))) <|
 .ite (((shrI .u64 q (32 : Int)) != 0) || (decide ((orI .u64 (shlI .u64 r (32 : Int)) (wu64 low1)) < (wu64 (q * (wu64 b21))))))
  (.obl ((0 : Int) ≤ (32 : Int)) <|
 .ite ((shrI .u64 (wu64 (r + (wu64 b11))) (32 : Int)) != 0)
  (.ret (.inr (wu64 (q - 1))))
  (.ret (.inl ((wu64 (q - 1)),(wu64 (r + (wu64 b11)))))))
  (.ret (.inr q))
def nat_guess_L0 (low1 : Int) (b11 : Int) (b21 : Int) (s : (Int × Int)) : T (Int) := T.loop (nat_guess_R0 low1 b11 b21) s
def nat_guess (high : Int) (mid : Int) (low : Int) (b1 : Int) (b2 : Int) : T Int :=
 .obl ((0 : Int) ≤ (32 : Int)) <|
 .obl ((wu64 b1) ≠ (0 : Int)) <|
 .obl ((wu64 b1) ≠ (0 : Int)) <|
 T.bind (nat_guess_L0 low b1 b2 ((wu64 (Int.tdiv (orI .u64 (shlI .u64 (wu64 high) (32 : Int)) (wu64 mid)) (wu64 b1))),(Int.tmod (orI .u64 (shlI .u64 (wu64 high) (32 : Int)) (wu64 mid)) (wu64 b1)))) fun q1 =>
 .ret q1
def math_bits_Sub32 (x : Int) (y : Int) (borrow : Int) : T (Int × Int) :=
 .obl ((0 : Int) ≤ (31 : Int)) <|
 .ret ((wu32 ((wu32 (x - y)) - borrow)),(shrI .u32 (orI .u32 (andI .u32 (xorI .u32 (4294967295 : Int) x) y) (andI .u32 (xorI .u32 (4294967295 : Int) (xorI .u32 x y)) (wu32 ((wu32 (x - y)) - borrow)))) (31 : Int)))
def math_bits_Add32 (x : Int) (y : Int) (carry : Int) : T (Int × Int) :=
 .obl ((0 : Int) ≤ (32 : Int)) <|
 .ret ((wu32 (wu64 ((wu64 ((wu64 x) + (wu64 y))) + (wu64 carry)))),(wu32 (shrI .u64 (wu64 ((wu64 ((wu64 x) + (wu64 y))) + (wu64 carry))) (32 : Int))))
def nat_takes_S_R0 (b1 : (List Int)) (q1 : Int) (x : (List Int)) (x1 : Int) : ((Nat × Nat) × Int × Int × Int × (List Int)) → T (((Nat × Nat) × Int × Int × Int × (List Int)) ⊕ (((Nat × Nat) × Int × Int × (List Int))))
 | (u1,carry,borrow,x2,xs) =>
 .ite (decide (x2 < x1))
  (.obl (idxOk x2 x.length) <|
 .obl (idxOk x2 u1.2) <|
 .obl (eOk xs.length xs.length (u1.1 + (Int.toNat x2)) xs.length) <|
 T.bind (math_bits_Sub32 (nthN xs (u1.1 + (Int.toNat x2)) (dflt (.int .u32))) (wu32 (wu64 (carry + (wu64 (q1 * (wu64 (nth x x2 (dflt (.int .u32))))))))) borrow) fun (r,borrow1) =>
 .obl (idxOk x2 u1.2) <|
 .obl (eOk xs.length xs.length (u1.1 + (Int.toNat x2)) xs.length) <|
 .obl ((0 : Int) ≤ (32 : Int)) <|
 .obl (xs.length = xs.length) <|
 .obl (xs.length = (List.length (List.set xs (u1.1 + (Int.toNat x2)) r))) <|
 .ret (.inl (u1,((shrI .u64 (wu64 (carry + (wu64 (q1 * (wu64 (nth x x2 (dflt (.int .u32)))))))) (32 : Int)),(borrow1,((w64 (x2 + 1)),(List.set xs (u1.1 + (Int.toNat x2)) r)))))))
  (.obl (xs.length = xs.length) <|
 .obl (xs.length = xs.length) <|
 .ret (.inr (u1,(carry,(borrow,xs)))))
def nat_takes_S_L0 (b1 : (List Int)) (q1 : Int) (x : (List Int)) (x1 : Int) (s : ((Nat × Nat) × Int × Int × Int × (List Int))) : T (((Nat × Nat) × Int × Int × (List Int))) := T.loop (nat_takes_S_R0 b1 q1 x x1) s
def nat_takes_S_R1 (b2 : (List Int)) (x3 : (List Int)) (x4 : Int) : ((Nat × Nat) × Int × Int × (List Int)) → T (((Nat × Nat) × Int × Int × (List Int)) ⊕ (((Nat × Nat) × Int × (List Int))))
 | (u3,more,x5,xs2) =>
 .ite (decide (x5 < x4))
  (.obl (idxOk x5 x3.length) <|
 .obl (idxOk x5 u3.2) <|
 .obl (eOk xs2.length xs2.length (u3.1 + (Int.toNat x5)) xs2.length) <|
 T.bind (math_bits_Add32 (nthN xs2 (u3.1 + (Int.toNat x5)) (dflt (.int .u32))) (nth x3 x5 (dflt (.int .u32))) more) fun (r2,more1) =>
 .obl (idxOk x5 u3.2) <|
 .obl (eOk xs2.length xs2.length (u3.1 + (Int.toNat x5)) xs2.length) <|
 .obl (xs2.length = xs2.length) <|
 .obl (xs2.length = (List.length (List.set xs2 (u3.1 + (Int.toNat x5)) r2))) <|
 .ret (.inl (u3,(more1,((w64 (x5 + 1)),(List.set xs2 (u3.1 + (Int.toNat x5)) r2))))))
  (.obl (xs2.length = xs2.length) <|
 .obl (xs2.length = xs2.length) <|
 .ret (.inr (u3,(more,xs2))))
def nat_takes_S_L1 (b2 : (List Int)) (x3 : (List Int)) (x4 : Int) (s : ((Nat × Nat) × Int × Int × (List Int))) : T (((Nat × Nat) × Int × (List Int))) := T.loop (nat_takes_S_R1 b2 x3 x4) s
def nat_takes_S (uw : (Nat × Nat)) (b : (List Int)) (q : Int) (u : (List Int)) : T (Bool × (List Int)) :=
 .obl (u.length = u.length) <|
 .obl (u.length = u.length) <|
 T.bind (nat_takes_S_L0 b q b (Nat.cast b.length : Int) (uw,((0 : Int),((0 : Int),((0 : Int),u))))) fun (u2,carry1,borrow2,xs1) =>
 .obl (idxOk (Nat.cast b.length : Int) u2.2) <|
 .obl (eOk xs1.length xs1.length (u2.1 + (Int.toNat (Nat.cast b.length : Int))) xs1.length) <|
 T.bind (math_bits_Sub32 (nthN xs1 (u2.1 + (Int.toNat (Nat.cast b.length : Int))) (dflt (.int .u32))) (wu32 carry1) borrow2) fun (r1,borrow3) =>
 .obl (idxOk (Nat.cast b.length : Int) u2.2) <|
 .obl (eOk xs1.length xs1.length (u2.1 + (Int.toNat (Nat.cast b.length : Int))) xs1.length) <|
 .ite (borrow3 == 0)
  (.obl (xs1.length = (List.length (List.set xs1 (u2.1 + (Int.toNat (Nat.cast b.length : Int))) r1))) <|
 .ret (false,(List.set xs1 (u2.1 + (Int.toNat (Nat.cast b.length : Int))) r1)))
  (.obl (xs1.length = xs1.length) <|
 .obl (xs1.length = (List.length (List.set xs1 (u2.1 + (Int.toNat (Nat.cast b.length : Int))) r1))) <|
 T.bind (nat_takes_S_L1 b b (Nat.cast b.length : Int) (u2,((0 : Int),((0 : Int),(List.set xs1 (u2.1 + (Int.toNat (Nat.cast b.length : Int))) r1))))) fun (u4,more2,xs3) =>
 .obl (idxOk (Nat.cast b.length : Int) u4.2) <|
 .obl (eOk xs3.length xs3.length (u4.1 + (Int.toNat (Nat.cast b.length : Int))) xs3.length) <|
 .obl (idxOk (Nat.cast b.length : Int) u4.2) <|
 .obl (eOk xs3.length xs3.length (u4.1 + (Int.toNat (Nat.cast b.length : Int))) xs3.length) <|
 .obl (xs3.length = (List.length (List.set xs3 (u4.1 + (Int.toNat (Nat.cast b.length : Int))) (wu32 ((nthN xs3 (u4.1 + (Int.toNat (Nat.cast b.length : Int))) (dflt (.int .u32))) + more2))))) <|
 .ret (true,(List.set xs3 (u4.1 + (Int.toNat (Nat.cast b.length : Int))) (wu32 ((nthN xs3 (u4.1 + (Int.toNat (Nat.cast b.length : Int))) (dflt (.int .u32))) + more2)))))
def nat_left_R0 (by_1 : Int) (n1 : Int) (x : (List Int)) (x1 : Int) : (Int × (List Int)) → T ((Int × (List Int)) ⊕ ((List Int)))
 | (x2,xs) =>
 .ite (decide (x2 < x1))
  (.obl (idxOk x2 x.length) <|
 .obl ((0 : Int) ≤ by_1) <|
 .obl (idxOk x2 xs.length) <|
 .obl (eOk xs.length xs.length ((0 : Nat) + (Int.toNat x2)) xs.length) <|
 .obl (idxOk x2 xs.length) <|
 .obl (eOk xs.length xs.length ((0 : Nat) + (Int.toNat x2)) xs.length) <|
 .ite (decide ((w64 (x2 + 1)) < n1))
  (.obl ((0 : Int) ≤ (32 : Int)) <|
 .obl (idxOk (w64 (x2 + 1)) xs.length) <|
 .obl (eOk xs.length xs.length ((0 : Nat) + (Int.toNat (w64 (x2 + 1)))) (List.length (List.set xs ((0 : Nat) + (Int.toNat x2)) (orI .u32 (nthN xs ((0 : Nat) + (Int.toNat x2)) (dflt (.int .u32))) (wu32 (shlI .u64 (wu64 (nth x x2 (dflt (.int .u32)))) by_1)))))) <|
 .obl (curOk xs.length (0 : Nat) xs.length (List.length (List.set (List.set xs ((0 : Nat) + (Int.toNat x2)) (orI .u32 (nthN xs ((0 : Nat) + (Int.toNat x2)) (dflt (.int .u32))) (wu32 (shlI .u64 (wu64 (nth x x2 (dflt (.int .u32)))) by_1)))) ((0 : Nat) + (Int.toNat (w64 (x2 + 1)))) (wu32 (shrI .u64 (shlI .u64 (wu64 (nth x x2 (dflt (.int .u32)))) by_1) (32 : Int)))))) <|
 .obl (xs.length = (List.length (List.set (List.set xs ((0 : Nat) + (Int.toNat x2)) (orI .u32 (nthN xs ((0 : Nat) + (Int.toNat x2)) (dflt (.int .u32))) (wu32 (shlI .u64 (wu64 (nth x x2 (dflt (.int .u32)))) by_1)))) ((0 : Nat) + (Int.toNat (w64 (x2 + 1)))) (wu32 (shrI .u64 (shlI .u64 (wu64 (nth x x2 (dflt (.int .u32)))) by_1) (32 : Int)))))) <|
 .ret (.inl ((w64 (x2 + 1)),(List.set (List.set xs ((0 : Nat) + (Int.toNat x2)) (orI .u32 (nthN xs ((0 : Nat) + (Int.toNat x2)) (dflt (.int .u32))) (wu32 (shlI .u64 (wu64 (nth x x2 (dflt (.int .u32)))) by_1)))) ((0 : Nat) + (Int.toNat (w64 (x2 + 1)))) (wu32 (shrI .u64 (shlI .u64 (wu64 (nth x x2 (dflt (.int .u32)))) by_1) (32 : Int)))))))
  (.obl (curOk xs.length (0 : Nat) xs.length (List.length (List.set xs ((0 : Nat) + (Int.toNat x2)) (orI .u32 (nthN xs ((0 : Nat) + (Int.toNat x2)) (dflt (.int .u32))) (wu32 (shlI .u64 (wu64 (nth x x2 (dflt (.int .u32)))) by_1)))))) <|
 .obl (xs.length = (List.length (List.set xs ((0 : Nat) + (Int.toNat x2)) (orI .u32 (nthN xs ((0 : Nat) + (Int.toNat x2)) (dflt (.int .u32))) (wu32 (shlI .u64 (wu64 (nth x x2 (dflt (.int .u32)))) by_1)))))) <|
 .ret (.inl ((w64 (x2 + 1)),(List.set xs ((0 : Nat) + (Int.toNat x2)) (orI .u32 (nthN xs ((0 : Nat) + (Int.toNat x2)) (dflt (.int .u32))) (wu32 (shlI .u64 (wu64 (nth x x2 (dflt (.int .u32)))) by_1))))))))
  (.obl (curOk xs.length (0 : Nat) xs.length xs.length) <|
 .obl (xs.length = xs.length) <|
 .ret (.inr xs))
def nat_left_L0 (by_1 : Int) (n1 : Int) (x : (List Int)) (x1 : Int) (s : (Int × (List Int))) : T ((List Int)) := T.loop (nat_left_R0 by_1 n1 x x1) s
def nat_left (a : (List Int)) (by_ : Int) (n : Int) : T (List Int) :=
 .obl (mkOk n n (4 : Nat)) <|
 .obl (curOk (Int.toNat n) (0 : Nat) (Int.toNat n) (List.length (List.replicate (Int.toNat n) (0 : Int)))) <|
 .obl ((Int.toNat n) = (List.length (List.replicate (Int.toNat n) (0 : Int)))) <|
 T.bind (nat_left_L0 by_ n a (Nat.cast a.length : Int) ((0 : Int),(List.replicate (Int.toNat n) (0 : Int)))) fun xs1 =>
 .obl (xs1.length = xs1.length) <|
 .ret (List.drop (0 : Nat) (List.take ((0 : Nat) + xs1.length) xs1))
def nat_Shift_R0 (by_ : Int) (x : (List Int)) (x1 : Int) : (Int × (List Int)) → T ((Int × (List Int)) ⊕ ((List Int)))
 | (x2,xs) =>
 .ite (decide (x2 < x1))
  (.obl (idxOk x2 x.length) <|
 .obl ((0 : Int) ≤ (32 : Int)) <|
 .obl ((0 : Int) ≤ by_) <|
 .obl (idxOk x2 xs.length) <|
 .obl (eOk xs.length xs.length ((0 : Nat) + (Int.toNat x2)) xs.length) <|
 .obl ((0 : Int) ≤ (32 : Int)) <|
 .obl (idxOk x2 xs.length) <|
 .obl (eOk xs.length xs.length ((0 : Nat) + (Int.toNat x2)) xs.length) <|
 .ite (decide ((0 : Int) < x2))
  (.obl (idxOk (w64 (x2 - 1)) xs.length) <|
 .obl (eOk xs.length xs.length ((0 : Nat) + (Int.toNat (w64 (x2 - 1)))) (List.length (List.set xs ((0 : Nat) + (Int.toNat x2)) (orI .u32 (nthN xs ((0 : Nat) + (Int.toNat x2)) (dflt (.int .u32))) (wu32 (shrI .u64 (shrI .u64 (shlI .u64 (wu64 (nth x x2 (dflt (.int .u32)))) (32 : Int)) by_) (32 : Int))))))) <|
 .obl (idxOk (w64 (x2 - 1)) xs.length) <|
 .obl (eOk xs.length xs.length ((0 : Nat) + (Int.toNat (w64 (x2 - 1)))) (List.length (List.set xs ((0 : Nat) + (Int.toNat x2)) (orI .u32 (nthN xs ((0 : Nat) + (Int.toNat x2)) (dflt (.int .u32))) (wu32 (shrI .u64 (shrI .u64 (shlI .u64 (wu64 (nth x x2 (dflt (.int .u32)))) (32 : Int)) by_) (32 : Int))))))) <|
 .obl (curOk xs.length (0 : Nat) xs.length (List.length (List.set (List.set xs ((0 : Nat) + (Int.toNat x2)) (orI .u32 (nthN xs ((0 : Nat) + (Int.toNat x2)) (dflt (.int .u32))) (wu32 (shrI .u64 (shrI .u64 (shlI .u64 (wu64 (nth x x2 (dflt (.int .u32)))) (32 : Int)) by_) (32 : Int))))) ((0 : Nat) + (Int.toNat (w64 (x2 - 1)))) (orI .u32 (nthN (List.set xs ((0 : Nat) + (Int.toNat x2)) (orI .u32 (nthN xs ((0 : Nat) + (Int.toNat x2)) (dflt (.int .u32))) (wu32 (shrI .u64 (shrI .u64 (shlI .u64 (wu64 (nth x x2 (dflt (.int .u32)))) (32 : Int)) by_) (32 : Int))))) ((0 : Nat) + (Int.toNat (w64 (x2 - 1)))) (dflt (.int .u32))) (wu32 (shrI .u64 (shlI .u64 (wu64 (nth x x2 (dflt (.int .u32)))) (32 : Int)) by_)))))) <|
 .obl (xs.length = (List.length (List.set (List.set xs ((0 : Nat) + (Int.toNat x2)) (orI .u32 (nthN xs ((0 : Nat) + (Int.toNat x2)) (dflt (.int .u32))) (wu32 (shrI .u64 (shrI .u64 (shlI .u64 (wu64 (nth x x2 (dflt (.int .u32)))) (32 : Int)) by_) (32 : Int))))) ((0 : Nat) + (Int.toNat (w64 (x2 - 1)))) (orI .u32 (nthN (List.set xs ((0 : Nat) + (Int.toNat x2)) (orI .u32 (nthN xs ((0 : Nat) + (Int.toNat x2)) (dflt (.int .u32))) (wu32 (shrI .u64 (shrI .u64 (shlI .u64 (wu64 (nth x x2 (dflt (.int .u32)))) (32 : Int)) by_) (32 : Int))))) ((0 : Nat) + (Int.toNat (w64 (x2 - 1)))) (dflt (.int .u32))) (wu32 (shrI .u64 (shlI .u64 (wu64 (nth x x2 (dflt (.int .u32)))) (32 : Int)) by_)))))) <|
 .ret (.inl ((w64 (x2 + 1)),(List.set (List.set xs ((0 : Nat) + (Int.toNat x2)) (orI .u32 (nthN xs ((0 : Nat) + (Int.toNat x2)) (dflt (.int .u32))) (wu32 (shrI .u64 (shrI .u64 (shlI .u64 (wu64 (nth x x2 (dflt (.int .u32)))) (32 : Int)) by_) (32 : Int))))) ((0 : Nat) + (Int.toNat (w64 (x2 - 1)))) (orI .u32 (nthN (List.set xs ((0 : Nat) + (Int.toNat x2)) (orI .u32 (nthN xs ((0 : Nat) + (Int.toNat x2)) (dflt (.int .u32))) (wu32 (shrI .u64 (shrI .u64 (shlI .u64 (wu64 (nth x x2 (dflt (.int .u32)))) (32 : Int)) by_) (32 : Int))))) ((0 : Nat) + (Int.toNat (w64 (x2 - 1)))) (dflt (.int .u32))) (wu32 (shrI .u64 (shlI .u64 (wu64 (nth x x2 (dflt (.int .u32)))) (32 : Int)) by_)))))))
  (.obl (curOk xs.length (0 : Nat) xs.length (List.length (List.set xs ((0 : Nat) + (Int.toNat x2)) (orI .u32 (nthN xs ((0 : Nat) + (Int.toNat x2)) (dflt (.int .u32))) (wu32 (shrI .u64 (shrI .u64 (shlI .u64 (wu64 (nth x x2 (dflt (.int .u32)))) (32 : Int)) by_) (32 : Int))))))) <|
 .obl (xs.length = (List.length (List.set xs ((0 : Nat) + (Int.toNat x2)) (orI .u32 (nthN xs ((0 : Nat) + (Int.toNat x2)) (dflt (.int .u32))) (wu32 (shrI .u64 (shrI .u64 (shlI .u64 (wu64 (nth x x2 (dflt (.int .u32)))) (32 : Int)) by_) (32 : Int))))))) <|
 .ret (.inl ((w64 (x2 + 1)),(List.set xs ((0 : Nat) + (Int.toNat x2)) (orI .u32 (nthN xs ((0 : Nat) + (Int.toNat x2)) (dflt (.int .u32))) (wu32 (shrI .u64 (shrI .u64 (shlI .u64 (wu64 (nth x x2 (dflt (.int .u32)))) (32 : Int)) by_) (32 : Int)))))))))
  (.obl (curOk xs.length (0 : Nat) xs.length xs.length) <|
 .obl (xs.length = xs.length) <|
 .ret (.inr xs))
def nat_Shift_L0 (by_ : Int) (x : (List Int)) (x1 : Int) (s : (Int × (List Int))) : T ((List Int)) := T.loop (nat_Shift_R0 by_ x x1) s
def nat_Shift (a : (List Int)) (n : Int) : T (List Int) :=
 T.bind (nat_trim a) fun a1 =>
 .ite (decide ((minI (maxI n (-4096 : Int)) (4096 : Int)) < (0 : Int)))
  (.obl ((32 : Int) ≠ (0 : Int)) <|
 .ite (decide ((Nat.cast a1.length : Int) ≤ (w64 (Int.tdiv (w64 ((0 : Int) - (minI (maxI n (-4096 : Int)) (4096 : Int)))) (32 : Int)))))
  (.ret ([] : List Int))
  (.obl ((32 : Int) ≠ (0 : Int)) <|
 .obl (mkOk (w64 ((Nat.cast a1.length : Int) - (w64 (Int.tdiv (w64 ((0 : Int) - (minI (maxI n (-4096 : Int)) (4096 : Int)))) (32 : Int))))) (w64 ((Nat.cast a1.length : Int) - (w64 (Int.tdiv (w64 ((0 : Int) - (minI (maxI n (-4096 : Int)) (4096 : Int)))) (32 : Int))))) (4 : Nat)) <|
 .obl (slOk (w64 (Int.tdiv (w64 ((0 : Int) - (minI (maxI n (-4096 : Int)) (4096 : Int)))) (32 : Int))) (Nat.cast a1.length : Int) a1.length) <|
 .obl (curOk (Int.toNat (w64 ((Nat.cast a1.length : Int) - (w64 (Int.tdiv (w64 ((0 : Int) - (minI (maxI n (-4096 : Int)) (4096 : Int)))) (32 : Int)))))) (0 : Nat) (Int.toNat (w64 ((Nat.cast a1.length : Int) - (w64 (Int.tdiv (w64 ((0 : Int) - (minI (maxI n (-4096 : Int)) (4096 : Int)))) (32 : Int)))))) (List.length (List.replicate (Int.toNat (w64 ((Nat.cast a1.length : Int) - (w64 (Int.tdiv (w64 ((0 : Int) - (minI (maxI n (-4096 : Int)) (4096 : Int)))) (32 : Int)))))) (0 : Int)))) <|
 .obl ((Int.toNat (w64 ((Nat.cast a1.length : Int) - (w64 (Int.tdiv (w64 ((0 : Int) - (minI (maxI n (-4096 : Int)) (4096 : Int)))) (32 : Int)))))) = (List.length (List.replicate (Int.toNat (w64 ((Nat.cast a1.length : Int) - (w64 (Int.tdiv (w64 ((0 : Int) - (minI (maxI n (-4096 : Int)) (4096 : Int)))) (32 : Int)))))) (0 : Int)))) <|
 T.bind (nat_Shift_L0 (wu64 (Int.tmod (w64 ((0 : Int) - (minI (maxI n (-4096 : Int)) (4096 : Int)))) (32 : Int))) (cutL (e := (.int .u32)) (w64 (Int.tdiv (w64 ((0 : Int) - (minI (maxI n (-4096 : Int)) (4096 : Int)))) (32 : Int))) (Nat.cast a1.length : Int) a1) (Nat.cast (List.length (cutL (e := (.int .u32)) (w64 (Int.tdiv (w64 ((0 : Int) - (minI (maxI n (-4096 : Int)) (4096 : Int)))) (32 : Int))) (Nat.cast a1.length : Int) a1)) : Int) ((0 : Int),(List.replicate (Int.toNat (w64 ((Nat.cast a1.length : Int) - (w64 (Int.tdiv (w64 ((0 : Int) - (minI (maxI n (-4096 : Int)) (4096 : Int)))) (32 : Int)))))) (0 : Int)))) fun xs1 =>
 .obl (xs1.length = xs1.length) <|
 T.bind (nat_trim (List.drop (0 : Nat) (List.take ((0 : Nat) + xs1.length) xs1))) fun r =>
 .ret r))
  (.obl ((32 : Int) ≠ (0 : Int)) <|
 .obl (mkOk (w64 ((w64 ((w64 (Int.tdiv (minI (maxI n (-4096 : Int)) (4096 : Int)) (32 : Int))) + (Nat.cast a1.length : Int))) + 1)) (w64 ((w64 ((w64 (Int.tdiv (minI (maxI n (-4096 : Int)) (4096 : Int)) (32 : Int))) + (Nat.cast a1.length : Int))) + 1)) (4 : Nat)) <|
 .obl (slOk (w64 (Int.tdiv (minI (maxI n (-4096 : Int)) (4096 : Int)) (32 : Int))) (Nat.cast (Int.toNat (w64 ((w64 ((w64 (Int.tdiv (minI (maxI n (-4096 : Int)) (4096 : Int)) (32 : Int))) + (Nat.cast a1.length : Int))) + 1))) : Int) (Int.toNat (w64 ((w64 ((w64 (Int.tdiv (minI (maxI n (-4096 : Int)) (4096 : Int)) (32 : Int))) + (Nat.cast a1.length : Int))) + 1)))) <|
 .obl ((32 : Int) ≠ (0 : Int)) <|
 T.bind (nat_left a1 (wu64 (Int.tmod (minI (maxI n (-4096 : Int)) (4096 : Int)) (32 : Int))) (w64 ((Nat.cast a1.length : Int) + (1 : Int)))) fun r1 =>
 .obl (cpyOk (Int.toNat (w64 ((w64 ((w64 (Int.tdiv (minI (maxI n (-4096 : Int)) (4096 : Int)) (32 : Int))) + (Nat.cast a1.length : Int))) + 1))) (Int.toNat (w64 ((w64 ((w64 (Int.tdiv (minI (maxI n (-4096 : Int)) (4096 : Int)) (32 : Int))) + (Nat.cast a1.length : Int))) + 1))) ((0 : Nat) + (Int.toNat (w64 (Int.tdiv (minI (maxI n (-4096 : Int)) (4096 : Int)) (32 : Int))))) ((Int.toNat (Nat.cast (Int.toNat (w64 ((w64 ((w64 (Int.tdiv (minI (maxI n (-4096 : Int)) (4096 : Int)) (32 : Int))) + (Nat.cast a1.length : Int))) + 1))) : Int)) - (Int.toNat (w64 (Int.tdiv (minI (maxI n (-4096 : Int)) (4096 : Int)) (32 : Int))))) (List.length (List.replicate (Int.toNat (w64 ((w64 ((w64 (Int.tdiv (minI (maxI n (-4096 : Int)) (4096 : Int)) (32 : Int))) + (Nat.cast a1.length : Int))) + 1))) (0 : Int)))) <|
 .obl ((Int.toNat (w64 ((w64 ((w64 (Int.tdiv (minI (maxI n (-4096 : Int)) (4096 : Int)) (32 : Int))) + (Nat.cast a1.length : Int))) + 1))) = (Int.toNat (w64 ((w64 ((w64 (Int.tdiv (minI (maxI n (-4096 : Int)) (4096 : Int)) (32 : Int))) + (Nat.cast a1.length : Int))) + 1)))) <|
 T.bind (nat_trim (List.drop (0 : Nat) (List.take ((0 : Nat) + (Int.toNat (w64 ((w64 ((w64 (Int.tdiv (minI (maxI n (-4096 : Int)) (4096 : Int)) (32 : Int))) + (Nat.cast a1.length : Int))) + 1)))) (copyL ((0 : Nat) + (Int.toNat (w64 (Int.tdiv (minI (maxI n (-4096 : Int)) (4096 : Int)) (32 : Int))))) ((Int.toNat (Nat.cast (Int.toNat (w64 ((w64 ((w64 (Int.tdiv (minI (maxI n (-4096 : Int)) (4096 : Int)) (32 : Int))) + (Nat.cast a1.length : Int))) + 1))) : Int)) - (Int.toNat (w64 (Int.tdiv (minI (maxI n (-4096 : Int)) (4096 : Int)) (32 : Int))))) (List.replicate (Int.toNat (w64 ((w64 ((w64 (Int.tdiv (minI (maxI n (-4096 : Int)) (4096 : Int)) (32 : Int))) + (Nat.cast a1.length : Int))) + 1))) (0 : Int)) r1)))) fun r2 =>
 .ret r2)
def nat_long_R0 (by_ : Int) (d : (List Int)) (n : Int) : (Int × (List Int) × (List Int)) → T ((Int × (List Int) × (List Int)) ⊕ (((List Int) × (List Int))))
 | (i,xs2,xs3) =>
 .ite (decide ((0 : Int) ≤ i))
  (.obl (idxOk (w64 (i + n)) xs2.length) <|
 .obl (eOk xs2.length xs2.length ((0 : Nat) + (Int.toNat (w64 (i + n)))) xs2.length) <|
 .obl (idxOk (w64 ((w64 (i + n)) - 1)) xs2.length) <|
 .obl (eOk xs2.length xs2.length ((0 : Nat) + (Int.toNat (w64 ((w64 (i + n)) - 1)))) xs2.length) <|
 .obl (idxOk (w64 ((w64 (i + n)) - 2)) xs2.length) <|
 .obl (eOk xs2.length xs2.length ((0 : Nat) + (Int.toNat (w64 ((w64 (i + n)) - 2)))) xs2.length) <|
 .obl (idxOk (w64 (n - 1)) d.length) <|
 .obl (idxOk (w64 (n - 2)) d.length) <|
 T.bind (nat_guess (nthN xs2 ((0 : Nat) + (Int.toNat (w64 (i + n)))) (dflt (.int .u32))) (nthN xs2 ((0 : Nat) + (Int.toNat (w64 ((w64 (i + n)) - 1)))) (dflt (.int .u32))) (nthN xs2 ((0 : Nat) + (Int.toNat (w64 ((w64 (i + n)) - 2)))) (dflt (.int .u32))) (nth d (w64 (n - 1)) (dflt (.int .u32))) (nth d (w64 (n - 2)) (dflt (.int .u32)))) fun x =>
 T.bind (.obl (slOk i (w64 ((w64 (i + n)) + 1)) xs2.length) <|
 .obl (xs2.length = xs2.length) <|
 .obl (xs2.length = xs2.length) <|
 T.bind (nat_takes_S (((0 : Nat) + (Int.toNat i)),((Int.toNat (w64 ((w64 (i + n)) + 1))) - (Int.toNat i))) d x xs2) fun (r1,u) =>
 .ite r1
  (.obl (curOk xs3.length (0 : Nat) xs3.length xs3.length) <|
 .obl (curOk xs2.length (0 : Nat) xs2.length u.length) <|
 .obl (u.length = u.length) <|
 .obl (xs3.length = xs3.length) <|
 .ret ((wu64 (x - 1)),(u,xs3)))
  (.obl (curOk xs3.length (0 : Nat) xs3.length xs3.length) <|
 .obl (curOk xs2.length (0 : Nat) xs2.length u.length) <|
 .obl (u.length = u.length) <|
 .obl (xs3.length = xs3.length) <|
 .ret (x,(u,xs3))) : T ((Int × (List Int) × (List Int)))) fun (x1,xs4,xs5) =>
 .obl (idxOk i xs5.length) <|
 .obl (eOk xs5.length xs5.length ((0 : Nat) + (Int.toNat i)) xs5.length) <|
 .obl (curOk xs5.length (0 : Nat) xs5.length (List.length (List.set xs5 ((0 : Nat) + (Int.toNat i)) (wu32 x1)))) <|
 .obl (curOk xs4.length (0 : Nat) xs4.length xs4.length) <|
 .obl (xs4.length = xs4.length) <|
 .obl (xs5.length = (List.length (List.set xs5 ((0 : Nat) + (Int.toNat i)) (wu32 x1)))) <|
 .ret (.inl ((w64 (i - 1)),(xs4,(List.set xs5 ((0 : Nat) + (Int.toNat i)) (wu32 x1))))))
  (.obl (curOk xs3.length (0 : Nat) xs3.length xs3.length) <|
 .obl (curOk xs2.length (0 : Nat) xs2.length xs2.length) <|
 .obl (xs2.length = xs2.length) <|
 .obl (xs3.length = xs3.length) <|
 .ret (.inr (xs2,xs3)))
def nat_long_L0 (by_ : Int) (d : (List Int)) (n : Int) (s : (Int × (List Int) × (List Int))) : T (((List Int) × (List Int))) := T.loop (nat_long_R0 by_ d n) s
def nat_long (a : (List Int)) (b : (List Int)) : T ((List Int) × (List Int)) :=
 .obl (idxOk (w64 ((Nat.cast b.length : Int) - (1 : Int))) b.length) <|
 T.bind (math_bits_LeadingZeros32 (nth b (w64 ((Nat.cast b.length : Int) - (1 : Int))) (dflt (.int .u32)))) fun r =>
 T.bind (nat_left_S a (wu64 r) (w64 ((Nat.cast a.length : Int) + (1 : Int)))) fun xs =>
 T.bind (nat_left_S b (wu64 r) (Nat.cast b.length : Int)) fun xs1 =>
 .obl (mkOk (w64 ((w64 ((Nat.cast a.length : Int) - (Nat.cast xs1.length : Int))) + 1)) (w64 ((w64 ((Nat.cast a.length : Int) - (Nat.cast xs1.length : Int))) + 1)) (4 : Nat)) <|
 .obl (xs1.length = xs1.length) <|
 .obl (curOk (Int.toNat (w64 ((w64 ((Nat.cast a.length : Int) - (Nat.cast xs1.length : Int))) + 1))) (0 : Nat) (Int.toNat (w64 ((w64 ((Nat.cast a.length : Int) - (Nat.cast xs1.length : Int))) + 1))) (List.length (List.replicate (Int.toNat (w64 ((w64 ((Nat.cast a.length : Int) - (Nat.cast xs1.length : Int))) + 1))) (0 : Int)))) <|
 .obl (curOk xs.length (0 : Nat) xs.length xs.length) <|
 .obl (xs.length = xs.length) <|
 .obl ((Int.toNat (w64 ((w64 ((Nat.cast a.length : Int) - (Nat.cast xs1.length : Int))) + 1))) = (List.length (List.replicate (Int.toNat (w64 ((w64 ((Nat.cast a.length : Int) - (Nat.cast xs1.length : Int))) + 1))) (0 : Int)))) <|
 T.bind (nat_long_L0 (wu64 r) (List.drop (0 : Nat) (List.take ((0 : Nat) + xs1.length) xs1)) (Nat.cast xs1.length : Int) ((w64 ((Nat.cast (Int.toNat (w64 ((w64 ((Nat.cast a.length : Int) - (Nat.cast xs1.length : Int))) + 1))) : Int) - (1 : Int))),(xs,(List.replicate (Int.toNat (w64 ((w64 ((Nat.cast a.length : Int) - (Nat.cast xs1.length : Int))) + 1))) (0 : Int))))) fun (xs6,xs7) =>
 .obl (xs7.length = xs7.length) <|
 .obl (xs6.length = xs6.length) <|
 T.bind (nat_trim (List.drop (0 : Nat) (List.take ((0 : Nat) + xs7.length) xs7))) fun q1 =>
 .obl (slOk (0 : Int) (Nat.cast xs1.length : Int) (List.length (List.drop (0 : Nat) (List.take ((0 : Nat) + xs6.length) xs6)))) <|
 T.bind (nat_Shift (cutL (e := (.int .u32)) (0 : Int) (Nat.cast xs1.length : Int) (List.drop (0 : Nat) (List.take ((0 : Nat) + xs6.length) xs6))) (w64 ((0 : Int) - (w64 (wu64 r))))) fun r2 =>
 .ret (q1,r2)
def nat_DivMod (a : (List Int)) (b : (List Int)) : T ((List Int) × (List Int) × Bool) :=
 T.bind (nat_trim a) fun a1 =>
 T.bind (nat_trim b) fun b1 =>
 .ite ((Nat.cast b1.length : Int) == (0 : Int))
  (.ret (([] : List Int),(([] : List Int),false)))
  (T.bind (nat_Cmp a1 b1) fun r =>
 .ite (decide (r < (0 : Int)))
  (T.bind (nat_Trim a1) fun r1 =>
 .ret (([] : List Int),(r1,true)))
  (.ite ((Nat.cast b1.length : Int) == (1 : Int))
  (.obl (idxOk (0 : Int) b1.length) <|
 T.bind (nat_small a1 (nth b1 (0 : Int) (dflt (.int .u32)))) fun (q,rest) =>
 T.bind (nat_Of (wu64 rest)) fun r2 =>
 .ret (q,(r2,true)))
  (T.bind (nat_long a1 b1) fun (q1,r3) =>
 .ret (q1,(r3,true)))))
def nat_Gcd_R0  : ((List Int) × (List Int)) → T (((List Int) × (List Int)) ⊕ ((List Int)))
 | (a2,b2) =>
 .ite (decide ((0 : Int) < (Nat.cast b2.length : Int)))
  (T.bind (nat_DivMod a2 b2) fun (r,r1,r2) =>
 .ret (.inl (b2,r1)))
  (.ret (.inr a2))
def nat_Gcd_L0  (s : ((List Int) × (List Int))) : T ((List Int)) := T.loop (nat_Gcd_R0 ) s
def nat_Gcd (a : (List Int)) (b : (List Int)) : T (List Int) :=
 T.bind (nat_Trim a) fun a1 =>
 T.bind (nat_Trim b) fun b1 =>
 T.bind (nat_Gcd_L0  (a1,b1)) fun a3 =>
 .ret a3
def rat_Is (a : Rat) : T Bool :=
 T.bind (T.bind (nat_Is a.2.1) fun r =>
 .ite (!r)
  (.ret true)
  (T.bind (nat_Is a.2.2.1) fun r1 =>
 .ite (!r1)
  (.ret true)
  (.ite ((Nat.cast a.2.2.1.length : Int) == (0 : Int))
  (.ret true)
  (.ite a.1
  (.ret ((Nat.cast a.2.1.length : Int) == (0 : Int)))
  (.ret false)))) : T (Bool)) fun x =>
 .ite x
  (.ret false)
  (T.bind (nat_Gcd a.2.1 a.2.2.1) fun r2 =>
 T.bind (nat_Of (1 : Int)) fun r3 =>
 T.bind (nat_Cmp r2 r3) fun r4 =>
 .ret (r4 == 0))
def rat_Of (neg : Bool) (n : (List Int)) (d : (List Int)) : T Rat :=
 T.bind (nat_Trim n) fun n1 =>
 T.bind (nat_Trim d) fun d1 =>
 .ite (((Nat.cast n1.length : Int) == (0 : Int)) || ((Nat.cast d1.length : Int) == (0 : Int)))
  (T.bind (nat_Of (1 : Int)) fun r =>
 .ret (false,(([] : List Int),(r,()))))
  (T.bind (nat_Gcd n1 d1) fun g =>
 T.bind (nat_DivMod n1 g) fun (n2,r1,r2) =>
 T.bind (nat_DivMod d1 g) fun (d2,r3,r4) =>
 .ret (neg,(n2,(d2,()))))
def rat_Norm (a : Rat) : T Rat :=
 T.bind (rat_Of a.1 a.2.1 a.2.2.1) fun r =>
 .ret r
def rat_Large (a : Rat) : T Bool :=
 T.bind (rat_Norm a) fun r =>
 .ret ((decide ((16 : Int) < (Nat.cast r.2.1.length : Int))) || (decide ((16 : Int) < (Nat.cast r.2.2.1.length : Int))))
def sheet_heads_f2 (p : Param) : T Bool :=
 T.bind (expr_Name p.1) fun r =>
 .ite (!r)
  (.ret true)
  (T.bind (rat_Is p.2.1) fun r1 =>
 .ite (!r1)
  (.ret true)
  (T.bind (rat_Large p.2.1) fun r2 =>
 .ret r2))
def slices_IndexFunc_sl_Param_R0 (s1 : (List Param)) (f : Param → T Bool) (x : Int) : Int → T (Int ⊕ (Unit ⊕ Int))
 | x1 =>
 .ite (decide (x1 < x))
  (.obl (idxOk x1 s1.length) <|
 T.bind (f (nth s1 x1 (dflt tyParam))) fun r =>
 .ite r
  (.ret (.inr (.inr x1)))
  (.ret (.inl (w64 (x1 + 1)))))
  (.ret (.inr (.inl ())))
def slices_IndexFunc_sl_Param_L0 (s1 : (List Param)) (f : Param → T Bool) (x : Int) (s : Int) : T (Unit ⊕ Int) := T.loop (slices_IndexFunc_sl_Param_R0 s1 f x) s
def slices_IndexFunc_sl_Param (s : (List Param)) (f : Param → T Bool) : T Int :=
 T.bind (slices_IndexFunc_sl_Param_L0 s f (Nat.cast s.length : Int) (0 : Int)) <|
 Sum.elim (fun _ =>
 .ret (-1 : Int))
  (fun x2 =>
 .ret x2)
def slices_ContainsFunc_sl_Param (s : (List Param)) (f : Param → T Bool) : T Bool :=
 T.bind (slices_IndexFunc_sl_Param s f) fun r =>
 .ret (decide ((0 : Int) ≤ r))
def sheet_isWhen (s : Str) : T Bool :=
 .ite (strEq s ([] : Str))
  (.ret true)
  (T.bind (expr_Name s) fun r =>
 .ret r)
def sheet_heads_f3 (p : Page) : T Bool :=
 T.bind (expr_Name p.1) fun r =>
 .ite (!r)
  (.ret true)
  (T.bind (sheet_isWhen p.2.1) fun r1 =>
 .ret (!r1))
def slices_IndexFunc_sl_Page_R0 (s1 : (List Page)) (f : Page → T Bool) (x : Int) : Int → T (Int ⊕ (Unit ⊕ Int))
 | x1 =>
 .ite (decide (x1 < x))
  (.obl (idxOk x1 s1.length) <|
 T.bind (f (nth s1 x1 (dflt tyPage))) fun r =>
 .ite r
  (.ret (.inr (.inr x1)))
  (.ret (.inl (w64 (x1 + 1)))))
  (.ret (.inr (.inl ())))
def slices_IndexFunc_sl_Page_L0 (s1 : (List Page)) (f : Page → T Bool) (x : Int) (s : Int) : T (Unit ⊕ Int) := T.loop (slices_IndexFunc_sl_Page_R0 s1 f x) s
def slices_IndexFunc_sl_Page (s : (List Page)) (f : Page → T Bool) : T Int :=
 T.bind (slices_IndexFunc_sl_Page_L0 s f (Nat.cast s.length : Int) (0 : Int)) <|
 Sum.elim (fun _ =>
 .ret (-1 : Int))
  (fun x2 =>
 .ret x2)
def slices_ContainsFunc_sl_Page (s : (List Page)) (f : Page → T Bool) : T Bool :=
 T.bind (slices_IndexFunc_sl_Page s f) fun r =>
 .ret (decide ((0 : Int) ≤ r))
def sheet_heads (f : Form) : T Bool :=
 T.bind (slices_ContainsFunc_sl_Switch f.1 (fun z0 => sheet_heads_f1 z0)) fun r =>
 .ite (!r)
  (T.bind (slices_ContainsFunc_sl_Param f.2.1 (fun z0 => sheet_heads_f2 z0)) fun r1 =>
 .ite (!r1)
  (T.bind (slices_ContainsFunc_sl_Page f.2.2.1 (fun z0 => sheet_heads_f3 z0)) fun r2 =>
 .ret (!r2))
  (.ret false))
  (.ret false)
def sheet_isPage (page : Int) (ahead : Int) (pages : Int) : T Bool :=
 .ret ((decide ((maxI ahead (0 : Int)) ≤ page)) && (decide (page < pages)))
def sheet_fields_R0 (f1 : Form) (x : (List Field)) (x1 : Int) : (Int × Int) → T ((Int × Int) ⊕ (Unit ⊕ Bool))
 | (ahead,x2) =>
 .ite (decide (x2 < x1))
  (.obl (idxOk x2 x.length) <|
 T.bind (T.bind (expr_Name (nth x x2 (dflt tyField)).1) fun r =>
 .ite (!r)
  (.ret (true,(nth x x2 (dflt tyField))))
  (T.bind (sheet_isPage (nth x x2 (dflt tyField)).2.1 ahead (Nat.cast f1.2.2.1.length : Int)) fun r1 =>
 .ite (!r1)
  (.ret (true,(nth x x2 (dflt tyField))))
  (.ite (decide ((nth x x2 (dflt tyField)).2.2.2.1 < (0 : Int)))
  (.ret (true,(nth x x2 (dflt tyField))))
  (.ret ((decide ((9 : Int) < (nth x x2 (dflt tyField)).2.2.2.1)),(nth x x2 (dflt tyField)))))) : T ((Bool × Field))) fun (x3,v) =>
 .ite x3
  (.ret (.inr (.inr false)))
  (.ret (.inl (v.2.1,(w64 (x2 + 1))))))
  (.ret (.inr (.inl ())))
def sheet_fields_L0 (f1 : Form) (x : (List Field)) (x1 : Int) (s : (Int × Int)) : T (Unit ⊕ Bool) := T.loop (sheet_fields_R0 f1 x x1) s
def sheet_fields (f : Form) : T Bool :=
 T.bind (sheet_fields_L0 f f.2.2.2.1 (Nat.cast f.2.2.2.1.length : Int) ((0 : Int),(0 : Int))) <|
 Sum.elim (fun _ =>
 .ret true)
  (fun x4 =>
 .ret x4)
def sheet_compares  : T (List Str) :=
 .ret ([([61] : Str),([60] : Str),([60,61] : Str)] : List Str)
def expr_kids (kind : Int) : T Int :=
 .ite (bif (kind == 1) then (kind == 1) else (kind == 2))
  (.ret (0 : Int))
  (.ite (kind == 7)
  (.ret (1 : Int))
  (.ite (kind == 3)
  (.ret (2 : Int))
  (.ite (kind == 4)
  (.ret (2 : Int))
  (.ite (kind == 5)
  (.ret (2 : Int))
  (.ite (kind == 6)
  (.ret (2 : Int))
  (.ret (-1 : Int)))))))
def nat_Mul_R1 (b3 : (List Int)) (i : Int) (v : Int) (x3 : (List Int)) (x4 : Int) (x5 : Int) (x6 : (List Int)) (x7 : Int) : (Int × Int × (List Int)) → T ((Int × Int × (List Int)) ⊕ ((Int × (List Int))))
 | (carry,x8,xs1) =>
 .ite (decide (x8 < x7))
  (.obl (idxOk x8 x6.length) <|
 .obl (idxOk (w64 (i + x8)) xs1.length) <|
 .obl (eOk xs1.length xs1.length ((0 : Nat) + (Int.toNat (w64 (i + x8)))) xs1.length) <|
 .obl (idxOk (w64 (i + x8)) xs1.length) <|
 .obl (eOk xs1.length xs1.length ((0 : Nat) + (Int.toNat (w64 (i + x8)))) xs1.length) <|
 .obl ((0 : Int) ≤ (32 : Int)) <|
 .obl (curOk xs1.length (0 : Nat) xs1.length (List.length (List.set xs1 ((0 : Nat) + (Int.toNat (w64 (i + x8)))) (wu32 (wu64 (carry + (wu64 ((wu64 ((wu64 v) * (wu64 (nth x6 x8 (dflt (.int .u32)))))) + (wu64 (nthN xs1 ((0 : Nat) + (Int.toNat (w64 (i + x8)))) (dflt (.int .u32)))))))))))) <|
 .obl (xs1.length = (List.length (List.set xs1 ((0 : Nat) + (Int.toNat (w64 (i + x8)))) (wu32 (wu64 (carry + (wu64 ((wu64 ((wu64 v) * (wu64 (nth x6 x8 (dflt (.int .u32)))))) + (wu64 (nthN xs1 ((0 : Nat) + (Int.toNat (w64 (i + x8)))) (dflt (.int .u32)))))))))))) <|
 .ret (.inl ((shrI .u64 (wu64 (carry + (wu64 ((wu64 ((wu64 v) * (wu64 (nth x6 x8 (dflt (.int .u32)))))) + (wu64 (nthN xs1 ((0 : Nat) + (Int.toNat (w64 (i + x8)))) (dflt (.int .u32)))))))) (32 : Int)),((w64 (x8 + 1)),(List.set xs1 ((0 : Nat) + (Int.toNat (w64 (i + x8)))) (wu32 (wu64 (carry + (wu64 ((wu64 ((wu64 v) * (wu64 (nth x6 x8 (dflt (.int .u32)))))) + (wu64 (nthN xs1 ((0 : Nat) + (Int.toNat (w64 (i + x8)))) (dflt (.int .u32))))))))))))))
  (.obl (curOk xs1.length (0 : Nat) xs1.length xs1.length) <|
 .obl (xs1.length = xs1.length) <|
 .ret (.inr (carry,xs1)))
def nat_Mul_L1 (b3 : (List Int)) (i : Int) (v : Int) (x3 : (List Int)) (x4 : Int) (x5 : Int) (x6 : (List Int)) (x7 : Int) (s : (Int × Int × (List Int))) : T ((Int × (List Int))) := T.loop (nat_Mul_R1 b3 i v x3 x4 x5 x6 x7) s
def nat_Mul_R0 (b2 : (List Int)) (x : (List Int)) (x1 : Int) : (Int × (List Int)) → T ((Int × (List Int)) ⊕ ((List Int)))
 | (x2,xs) =>
 .ite (decide (x2 < x1))
  (.obl (idxOk x2 x.length) <|
 .obl (curOk xs.length (0 : Nat) xs.length xs.length) <|
 .obl (xs.length = xs.length) <|
 T.bind (nat_Mul_L1 b2 x2 (nth x x2 (dflt (.int .u32))) x x1 x2 b2 (Nat.cast b2.length : Int) ((0 : Int),((0 : Int),xs))) fun (carry1,xs2) =>
 .obl (idxOk (w64 (x2 + (Nat.cast b2.length : Int))) xs2.length) <|
 .obl (eOk xs2.length xs2.length ((0 : Nat) + (Int.toNat (w64 (x2 + (Nat.cast b2.length : Int))))) xs2.length) <|
 .obl (curOk xs2.length (0 : Nat) xs2.length (List.length (List.set xs2 ((0 : Nat) + (Int.toNat (w64 (x2 + (Nat.cast b2.length : Int))))) (wu32 carry1)))) <|
 .obl (xs2.length = (List.length (List.set xs2 ((0 : Nat) + (Int.toNat (w64 (x2 + (Nat.cast b2.length : Int))))) (wu32 carry1)))) <|
 .ret (.inl ((w64 (x2 + 1)),(List.set xs2 ((0 : Nat) + (Int.toNat (w64 (x2 + (Nat.cast b2.length : Int))))) (wu32 carry1)))))
  (.obl (curOk xs.length (0 : Nat) xs.length xs.length) <|
 .obl (xs.length = xs.length) <|
 .ret (.inr xs))
def nat_Mul_L0 (b2 : (List Int)) (x : (List Int)) (x1 : Int) (s : (Int × (List Int))) : T ((List Int)) := T.loop (nat_Mul_R0 b2 x x1) s
def nat_Mul (a : (List Int)) (b : (List Int)) : T (List Int) :=
 T.bind (nat_trim a) fun a1 =>
 T.bind (nat_trim b) fun b1 =>
 .obl (mkOk (w64 ((Nat.cast a1.length : Int) + (Nat.cast b1.length : Int))) (w64 ((Nat.cast a1.length : Int) + (Nat.cast b1.length : Int))) (4 : Nat)) <|
 .obl (curOk (Int.toNat (w64 ((Nat.cast a1.length : Int) + (Nat.cast b1.length : Int)))) (0 : Nat) (Int.toNat (w64 ((Nat.cast a1.length : Int) + (Nat.cast b1.length : Int)))) (List.length (List.replicate (Int.toNat (w64 ((Nat.cast a1.length : Int) + (Nat.cast b1.length : Int)))) (0 : Int)))) <|
 .obl ((Int.toNat (w64 ((Nat.cast a1.length : Int) + (Nat.cast b1.length : Int)))) = (List.length (List.replicate (Int.toNat (w64 ((Nat.cast a1.length : Int) + (Nat.cast b1.length : Int)))) (0 : Int)))) <|
 T.bind (nat_Mul_L0 b1 a1 (Nat.cast a1.length : Int) ((0 : Int),(List.replicate (Int.toNat (w64 ((Nat.cast a1.length : Int) + (Nat.cast b1.length : Int)))) (0 : Int)))) fun xs3 =>
 .obl (xs3.length = xs3.length) <|
 T.bind (nat_trim (List.drop (0 : Nat) (List.take ((0 : Nat) + xs3.length) xs3))) fun r =>
 .ret r
def dec_ten_R0 (x : Int) : ((List Int) × Int) → T (((List Int) × Int) ⊕ ((List Int)))
 | (a1,x1) =>
 .ite (decide (x1 < x))
  (T.bind (nat_Of (10 : Int)) fun r =>
 T.bind (nat_Mul a1 r) fun a2 =>
 .ret (.inl (a2,(w64 (x1 + 1)))))
  (.ret (.inr a1))
def dec_ten_L0 (x : Int) (s : ((List Int) × Int)) : T ((List Int)) := T.loop (dec_ten_R0 x) s
def dec_ten (n : Int) : T (List Int) :=
 T.bind (nat_Of (1 : Int)) fun a =>
 T.bind (dec_ten_L0 n (a,(0 : Int))) fun a3 =>
 .ret a3
def dec_sign (a : Rat) : T Str :=
 .ite a.1
  (.ret ([45] : Str))
  (.ret ([] : Str))
def slices_Reverse_sl_byte_S_R0  : ((Nat × Nat) × Int × Int × (List Int)) → T (((Nat × Nat) × Int × Int × (List Int)) ⊕ ((List Int)))
 | (s1,i,j,xs) =>
 .ite (decide (i < j))
  (.obl (idxOk j s1.2) <|
 .obl (eOk xs.length xs.length (s1.1 + (Int.toNat j)) xs.length) <|
 .obl (idxOk i s1.2) <|
 .obl (eOk xs.length xs.length (s1.1 + (Int.toNat i)) xs.length) <|
 .obl (idxOk i s1.2) <|
 .obl (eOk xs.length xs.length (s1.1 + (Int.toNat i)) xs.length) <|
 .obl (idxOk j s1.2) <|
 .obl (eOk xs.length xs.length (s1.1 + (Int.toNat j)) (List.length (List.set xs (s1.1 + (Int.toNat i)) (nthN xs (s1.1 + (Int.toNat j)) (dflt (.int .u8)))))) <|
 .obl (xs.length = xs.length) <|
 .obl (xs.length = (List.length (List.set (List.set xs (s1.1 + (Int.toNat i)) (nthN xs (s1.1 + (Int.toNat j)) (dflt (.int .u8)))) (s1.1 + (Int.toNat j)) (nthN xs (s1.1 + (Int.toNat i)) (dflt (.int .u8)))))) <|
 .ret (.inl (s1,((w64 (i + 1)),((w64 (j - 1)),(List.set (List.set xs (s1.1 + (Int.toNat i)) (nthN xs (s1.1 + (Int.toNat j)) (dflt (.int .u8)))) (s1.1 + (Int.toNat j)) (nthN xs (s1.1 + (Int.toNat i)) (dflt (.int .u8)))))))))
  (.obl (xs.length = xs.length) <|
 .ret (.inr xs))
def slices_Reverse_sl_byte_S_L0  (s : ((Nat × Nat) × Int × Int × (List Int))) : T ((List Int)) := T.loop (slices_Reverse_sl_byte_S_R0 ) s
def slices_Reverse_sl_byte_S (sw : (Nat × Nat)) (s : (List Int)) : T (List Int) :=
 .obl (s.length = s.length) <|
 .obl (s.length = s.length) <|
 T.bind (slices_Reverse_sl_byte_S_L0  (sw,((0 : Int),((w64 ((Nat.cast sw.2 : Int) - (1 : Int))),s)))) fun xs1 =>
 .obl (xs1.length = xs1.length) <|
 .ret xs1
def nat_Print_R1 (q1 : (List Int)) : (Int × Int × (List Int)) → T ((Int × Int × (List Int)) ⊕ ((List Int)))
 | (rest1,x,xs1) =>
 .ite (decide (x < (9 : Int)))
  (.obl ((10 : Int) ≠ (0 : Int)) <|
 .obl (idxOk (Int.tmod rest1 (10 : Int)) (List.length ([48,49,50,51,52,53,54,55,56,57] : Str))) <|
 .obl (appOk xs1.length xs1.length (0 : Nat) xs1.length xs1.length (1 : Nat) (1 : Nat)) <|
 .obl ((10 : Int) ≠ (0 : Int)) <|
 .obl (curOk (xs1.length + (1 : Nat)) (0 : Nat) (xs1.length + (1 : Nat)) (List.length (xs1 ++ ([(byteAt ([48,49,50,51,52,53,54,55,56,57] : Str) (Int.tmod rest1 (10 : Int)))] : List Int)))) <|
 .obl ((xs1.length + (1 : Nat)) = (List.length (xs1 ++ ([(byteAt ([48,49,50,51,52,53,54,55,56,57] : Str) (Int.tmod rest1 (10 : Int)))] : List Int)))) <|
 .ret (.inl ((wu32 (Int.tdiv rest1 (10 : Int))),((w64 (x + 1)),(xs1 ++ ([(byteAt ([48,49,50,51,52,53,54,55,56,57] : Str) (Int.tmod rest1 (10 : Int)))] : List Int))))))
  (.obl (curOk xs1.length (0 : Nat) xs1.length xs1.length) <|
 .obl (xs1.length = xs1.length) <|
 .ret (.inr xs1))
def nat_Print_L1 (q1 : (List Int)) (s : (Int × Int × (List Int))) : T ((List Int)) := T.loop (nat_Print_R1 q1) s
def nat_Print_R0  : ((List Int) × (List Int)) → T (((List Int) × (List Int)) ⊕ ((List Int)))
 | (a2,xs) =>
 .ite (decide ((0 : Int) < (Nat.cast a2.length : Int)))
  (T.bind (nat_small a2 (1000000000 : Int)) fun (q,rest) =>
 .obl (curOk xs.length (0 : Nat) xs.length xs.length) <|
 .obl (xs.length = xs.length) <|
 T.bind (nat_Print_L1 q (rest,((0 : Int),xs))) fun xs2 =>
 .obl (curOk xs2.length (0 : Nat) xs2.length xs2.length) <|
 .obl (xs2.length = xs2.length) <|
 .ret (.inl (q,xs2)))
  (.obl (curOk xs.length (0 : Nat) xs.length xs.length) <|
 .obl (xs.length = xs.length) <|
 .ret (.inr xs))
def nat_Print_L0  (s : ((List Int) × (List Int))) : T ((List Int)) := T.loop (nat_Print_R0 ) s
def nat_Print_R2  : ((Nat × Nat) × (List Int)) → T (((Nat × Nat) × (List Int)) ⊕ (((Nat × Nat) × (List Int))))
 | (b,xs4) =>
 .obl (((decide ((1 : Int) < (Nat.cast b.2 : Int))) = true) → ((idxOk (w64 ((Nat.cast b.2 : Int) - (1 : Int))) b.2) ∧ (eOk xs4.length xs4.length (b.1 + (Int.toNat (w64 ((Nat.cast b.2 : Int) - (1 : Int))))) xs4.length))) <|
 .ite ((decide ((1 : Int) < (Nat.cast b.2 : Int))) && ((nthN xs4 (b.1 + (Int.toNat (w64 ((Nat.cast b.2 : Int) - (1 : Int))))) (dflt (.int .u8))) == 48))
  (.obl (slOk (0 : Int) (w64 ((Nat.cast b.2 : Int) - (1 : Int))) b.2) <|
 .obl (xs4.length = xs4.length) <|
 .obl (xs4.length = xs4.length) <|
 .ret (.inl (((b.1 + (Int.toNat (0 : Int))),((Int.toNat (w64 ((Nat.cast b.2 : Int) - (1 : Int)))) - (Int.toNat (0 : Int)))),xs4)))
  (.obl (xs4.length = xs4.length) <|
 .obl (xs4.length = xs4.length) <|
 .ret (.inr (b,xs4)))
def nat_Print_L2  (s : ((Nat × Nat) × (List Int))) : T (((Nat × Nat) × (List Int))) := T.loop (nat_Print_R2 ) s
def nat_Print (a : (List Int)) : T Str :=
 T.bind (nat_Trim a) fun a1 =>
 .ite ((Nat.cast a1.length : Int) == (0 : Int))
  (.ret ([48] : Str))
  (.obl (curOk (0 : Nat) (0 : Nat) (0 : Nat) (0 : Nat)) <|
 .obl ((0 : Nat) = (0 : Nat)) <|
 T.bind (nat_Print_L0  (a1,([] : List Int))) fun xs3 =>
 .obl (xs3.length = xs3.length) <|
 .obl (xs3.length = xs3.length) <|
 T.bind (nat_Print_L2  (((0 : Nat),xs3.length),xs3)) fun (b1,xs5) =>
 .obl (xs5.length = xs5.length) <|
 .obl (xs5.length = xs5.length) <|
 T.bind (slices_Reverse_sl_byte_S b1 xs5) fun b2 =>
 .obl (xs5.length = b2.length) <|
 .ret (bytesStr (List.drop b1.1 (List.take (b1.1 + b1.2) b2))))
def strings_Repeat (s : Str) (count : Int) : T Str :=
 .obl ((0 : Int) ≤ count ∧ count ≤ (9223372036854775807 : Int) ∧ s.length * (Int.toNat count) ≤ (140737488355328 : Nat)) <|
 .ret (repS s (Int.toNat count))
def dec_pointed (s : Str) (n : Int) : T Str :=
 .ite (n == 0)
  (.ret s)
  (T.bind (strings_Repeat ([48] : Str) (maxI (0 : Int) (w64 ((w64 (n + 1)) - (Nat.cast s.length : Int))))) fun r =>
 .obl ((r.length + s.length) ≤ (4611686018427387904 : Nat)) <|
 .obl (slOk (0 : Int) (w64 ((Nat.cast (List.length (cat r s)) : Int) - n)) (List.length (cat r s))) <|
 .obl (((List.length (cutS (0 : Int) (w64 ((Nat.cast (List.length (cat r s)) : Int) - n)) (cat r s))) + (List.length ([46] : Str))) ≤ (4611686018427387904 : Nat)) <|
 .obl (slOk (w64 ((Nat.cast (List.length (cat r s)) : Int) - n)) (Nat.cast (List.length (cat r s)) : Int) (List.length (cat r s))) <|
 .obl (((List.length (cat (cutS (0 : Int) (w64 ((Nat.cast (List.length (cat r s)) : Int) - n)) (cat r s)) ([46] : Str))) + (List.length (cutS (w64 ((Nat.cast (List.length (cat r s)) : Int) - n)) (Nat.cast (List.length (cat r s)) : Int) (cat r s)))) ≤ (4611686018427387904 : Nat)) <|
 .ret (cat (cat (cutS (0 : Int) (w64 ((Nat.cast (List.length (cat r s)) : Int) - n)) (cat r s)) ([46] : Str)) (cutS (w64 ((Nat.cast (List.length (cat r s)) : Int) - n)) (Nat.cast (List.length (cat r s)) : Int) (cat r s))))
def dec_Exact_R0  : (Int × Rat) → T ((Int × Rat) ⊕ (Rat ⊕ (Str × Bool × Rat)))
 | (x,v) =>
 .ite (decide (x < (61 : Int)))
  (T.bind (dec_ten x) fun r1 =>
 T.bind (nat_Mul v.2.1 r1) fun r2 =>
 T.bind (nat_DivMod r2 v.2.2.1) fun (q,r3,r4) =>
 .ite ((Nat.cast r3.length : Int) == (0 : Int))
  (T.bind (dec_sign v) fun r5 =>
 T.bind (nat_Print q) fun r6 =>
 T.bind (dec_pointed r6 x) fun r7 =>
 .obl ((r5.length + r7.length) ≤ (4611686018427387904 : Nat)) <|
 .ret (.inr (.inr ((cat r5 r7),(true,v)))))
  (.ret (.inl ((w64 (x + 1)),v))))
  (.ret (.inr (.inl v)))
def dec_Exact_L0  (s : (Int × Rat)) : T (Rat ⊕ (Str × Bool × Rat)) := T.loop (dec_Exact_R0 ) s
def dec_Exact (a : Rat) : T (Str × Bool) :=
 T.bind (rat_Norm a) fun r =>
 T.bind (dec_Exact_L0  ((0 : Int),r)) <|
 Sum.elim (fun v1 =>
 .ret (([] : Str),false))
  (fun (x1,x2,v2) =>
 .ret (x1,x2))
def expr_isNum (a : Rat) : T Bool :=
 T.bind (T.bind (rat_Is a) fun r =>
 .ite (!r)
  (.ret true)
  (.ite a.1
  (.ret true)
  (T.bind (rat_Large a) fun r1 =>
 .ret r1)) : T (Bool)) fun x =>
 .ite x
  (.ret false)
  (T.bind (dec_Exact a) fun (r2,ok) =>
 .ret ok)
def expr_isNone (a : Rat) : T Bool :=
 .ite (!a.1)
  (.ite ((Nat.cast a.2.1.length : Int) == (0 : Int))
  (.ite ((Nat.cast a.2.2.1.length : Int) == (0 : Int))
  (.ret true)
  (T.bind (rat_Is a) fun r =>
 .ret r))
  (.ret false))
  (.ret false)
def expr_isNode (e : AM.Expr) : T Bool :=
 T.bind (expr_kids (Expr.kind e)) fun r =>
 .ite ((Nat.cast (List.length (Expr.kids e)) : Int) != r)
  (.ret false)
  (.ite ((Expr.kind e) == 1)
  (T.bind (expr_isNum (Expr.num e)) fun r1 =>
 .ite r1
  (.ret (strEq (Expr.name e) ([] : Str)))
  (.ret false))
  (.ite ((Expr.kind e) == 2)
  (T.bind (expr_isNone (Expr.num e)) fun r2 =>
 .ite r2
  (T.bind (expr_Name (Expr.name e)) fun r3 =>
 .ret r3)
  (.ret false))
  (T.bind (expr_isNone (Expr.num e)) fun r4 =>
 .ite r4
  (.ret (strEq (Expr.name e) ([] : Str)))
  (.ret false))))
def expr_may_f1_S (self_expr_may : AM.Expr → Int → Int → T (Bool × Int)) (k : AM.Expr) (a1 : Int) (v : Int) : T (Bool × Int) :=
 T.bind (self_expr_may k (w64 (a1 + 1)) v) fun (r,xs) =>
 .ret ((!r),xs)
def slices_IndexFunc_sl_Expr_expr_may_f1_S_R0 (self_expr_may : AM.Expr → Int → Int → T (Bool × Int)) (s1 : (List AM.Expr)) (x : Int) : ((Int × Unit) × Int × Int) → T (((Int × Unit) × Int × Int) ⊕ (Int ⊕ (Int × Int)))
 | (f1,x1,v1) =>
 .ite (decide (x1 < x))
  (.obl (idxOk x1 s1.length) <|
 T.bind ((expr_may_f1_S self_expr_may) (nth s1 x1 (dflt .expr)) f1.1 v1) fun (r,xs) =>
 .ite r
  (.ret (.inr (.inr (x1,xs))))
  (.ret (.inl ((f1.1,()),((w64 (x1 + 1)),xs)))))
  (.ret (.inr (.inl v1)))
def slices_IndexFunc_sl_Expr_expr_may_f1_S_L0 (self_expr_may : AM.Expr → Int → Int → T (Bool × Int)) (s1 : (List AM.Expr)) (x : Int) (s : ((Int × Unit) × Int × Int)) : T (Int ⊕ (Int × Int)) := T.loop (slices_IndexFunc_sl_Expr_expr_may_f1_S_R0 self_expr_may s1 x) s
def slices_IndexFunc_sl_Expr_expr_may_f1_S (self_expr_may : AM.Expr → Int → Int → T (Bool × Int)) (s : (List AM.Expr)) (f : (Int × Unit)) (v : Int) : T (Int × Int) :=
 T.bind (slices_IndexFunc_sl_Expr_expr_may_f1_S_L0 self_expr_may s (Nat.cast s.length : Int) ((f.1,()),((0 : Int),v))) <|
 Sum.elim (fun v2 =>
 .ret ((-1 : Int),v2))
  (fun (x2,v3) =>
 .ret (x2,v3))
def slices_ContainsFunc_sl_Expr_expr_may_f1_S (self_expr_may : AM.Expr → Int → Int → T (Bool × Int)) (s : (List AM.Expr)) (f : (Int × Unit)) (v : Int) : T (Bool × Int) :=
 T.bind ((slices_IndexFunc_sl_Expr_expr_may_f1_S self_expr_may) s (f.1,()) v) fun (r,xs) =>
 .ret ((decide ((0 : Int) ≤ r)),xs)
def expr_may_S_B (self_expr_may : AM.Expr → Int → Int → T (Bool × Int)) (e : AM.Expr) (deep : Int) (left : Int) : T (Bool × Int) :=
 T.bind (.ite (decide ((w64 (left - 1)) < (0 : Int)))
  (.ret (true,(w64 (left - 1))))
  (.ite (decide ((32 : Int) ≤ deep))
  (.ret (true,(w64 (left - 1))))
  (T.bind (expr_isNode e) fun r =>
 .ret ((!r),(w64 (left - 1))))) : T ((Bool × Int))) fun (x,v) =>
 .ite x
  (.ret (false,v))
  (T.bind ((slices_ContainsFunc_sl_Expr_expr_may_f1_S self_expr_may) (Expr.kids e) (deep,()) v) fun (r1,left1) =>
 .ret ((!r1),left1))
def expr_may_S (e : AM.Expr) (deep : Int) (left : Int) : T (Bool × Int) := T.fix (fun F x => expr_may_S_B (fun y0 y1 y2 => F (y0,y1,y2)) x.1 x.2.1 x.2.2) (e,deep,left)
def expr_Is (e : AM.Expr) : T Bool :=
 T.bind (expr_may_S e (0 : Int) (256 : Int)) fun (r,left) =>
 .ret r
def sheet_strengths  : T (List Str) :=
 .ret ([([114,101,113,117,105,114,101,100] : Str),([115,116,114,111,110,103] : Str),([109,101,100,105,117,109] : Str),([119,101,97,107] : Str)] : List Str)
def sheet_checks_f1 (r : Rule) : T Bool :=
 T.bind (expr_Name r.1) fun r1 =>
 .ite (!r1)
  (.ret true)
  (.ite (decide (r.2.1 < (0 : Int)))
  (.ret true)
  (T.bind (sheet_strengths) fun r2 =>
 .ite (decide ((Nat.cast r2.length : Int) ≤ r.2.1))
  (.ret true)
  (T.bind (sheet_isWhen r.2.2.1) fun r3 =>
 .ite (!r3)
  (.ret true)
  (T.bind (expr_Is r.2.2.2.1) fun r4 =>
 .ite (!r4)
  (.ret true)
  (T.bind (expr_Is r.2.2.2.2.1) fun r5 =>
 .ret (!r5))))))
def slices_IndexFunc_sl_Rule_R0 (s1 : (List Rule)) (f : Rule → T Bool) (x : Int) : Int → T (Int ⊕ (Unit ⊕ Int))
 | x1 =>
 .ite (decide (x1 < x))
  (.obl (idxOk x1 s1.length) <|
 T.bind (f (nth s1 x1 (dflt tyRule))) fun r =>
 .ite r
  (.ret (.inr (.inr x1)))
  (.ret (.inl (w64 (x1 + 1)))))
  (.ret (.inr (.inl ())))
def slices_IndexFunc_sl_Rule_L0 (s1 : (List Rule)) (f : Rule → T Bool) (x : Int) (s : Int) : T (Unit ⊕ Int) := T.loop (slices_IndexFunc_sl_Rule_R0 s1 f x) s
def slices_IndexFunc_sl_Rule (s : (List Rule)) (f : Rule → T Bool) : T Int :=
 T.bind (slices_IndexFunc_sl_Rule_L0 s f (Nat.cast s.length : Int) (0 : Int)) <|
 Sum.elim (fun _ =>
 .ret (-1 : Int))
  (fun x2 =>
 .ret x2)
def slices_ContainsFunc_sl_Rule (s : (List Rule)) (f : Rule → T Bool) : T Bool :=
 T.bind (slices_IndexFunc_sl_Rule s f) fun r =>
 .ret (decide ((0 : Int) ≤ r))
def sheet_checks_R0 (f1 : Form) (x : (List Check)) (x1 : Int) : (Int × Int) → T ((Int × Int) ⊕ (Unit ⊕ Bool))
 | (ahead,x2) =>
 .ite (decide (x2 < x1))
  (.obl (idxOk x2 x.length) <|
 T.bind (T.bind (expr_Name (nth x x2 (dflt tyCheck)).1) fun r =>
 .ite (!r)
  (.ret (true,(nth x x2 (dflt tyCheck))))
  (T.bind (sheet_isPage (nth x x2 (dflt tyCheck)).2.1 ahead (Nat.cast f1.2.2.1.length : Int)) fun r1 =>
 .ite (!r1)
  (.ret (true,(nth x x2 (dflt tyCheck))))
  (.ite (decide ((nth x x2 (dflt tyCheck)).2.2.1 < (0 : Int)))
  (.ret (true,(nth x x2 (dflt tyCheck))))
  (T.bind (sheet_compares) fun r2 =>
 .ite (decide ((Nat.cast r2.length : Int) ≤ (nth x x2 (dflt tyCheck)).2.2.1))
  (.ret (true,(nth x x2 (dflt tyCheck))))
  (T.bind (expr_Is (Expr.mk (Expr.kind (nth x x2 (dflt tyCheck)).2.2.2.1) ((Expr.num (nth x x2 (dflt tyCheck)).2.2.2.1).1,((Expr.num (nth x x2 (dflt tyCheck)).2.2.2.1).2.1,((Expr.num (nth x x2 (dflt tyCheck)).2.2.2.1).2.2.1,()))) (Expr.name (nth x x2 (dflt tyCheck)).2.2.2.1) (Expr.kids (nth x x2 (dflt tyCheck)).2.2.2.1))) fun r3 =>
 .ite (!r3)
  (.ret (true,(nth x x2 (dflt tyCheck))))
  (T.bind (expr_Is (Expr.mk (Expr.kind (nth x x2 (dflt tyCheck)).2.2.2.2.1) ((Expr.num (nth x x2 (dflt tyCheck)).2.2.2.2.1).1,((Expr.num (nth x x2 (dflt tyCheck)).2.2.2.2.1).2.1,((Expr.num (nth x x2 (dflt tyCheck)).2.2.2.2.1).2.2.1,()))) (Expr.name (nth x x2 (dflt tyCheck)).2.2.2.2.1) (Expr.kids (nth x x2 (dflt tyCheck)).2.2.2.2.1))) fun r4 =>
 .ret ((!r4),(nth x x2 (dflt tyCheck)))))))) : T ((Bool × Check))) fun (x3,v) =>
 .ite x3
  (.ret (.inr (.inr false)))
  (.ret (.inl (v.2.1,(w64 (x2 + 1))))))
  (.ret (.inr (.inl ())))
def sheet_checks_L0 (f1 : Form) (x : (List Check)) (x1 : Int) (s : (Int × Int)) : T (Unit ⊕ Bool) := T.loop (sheet_checks_R0 f1 x x1) s
def sheet_checks (f : Form) : T Bool :=
 T.bind (sheet_checks_L0 f f.2.2.2.2.2.1 (Nat.cast f.2.2.2.2.2.1.length : Int) ((0 : Int),(0 : Int))) <|
 Sum.elim (fun _ =>
 T.bind (slices_ContainsFunc_sl_Rule f.2.2.2.2.1 (fun z0 => sheet_checks_f1 z0)) fun r5 =>
 .ret (!r5))
  (fun x4 =>
 .ret x4)
def bld_copyCheck (v : Unit) (l : List Int) : T (Unit × List Int) := .ret (v,l)
def strings_Builder_WriteString_S (s : Str) (b : (Unit)) (xs : (List Int)) : T (Int × (Unit) × (List Int)) :=
 .obl (curOk xs.length (0 : Nat) xs.length xs.length) <|
 .obl (xs.length = xs.length) <|
 T.bind (bld_copyCheck () xs) fun (b1,xs1) =>
 .obl (appOk xs1.length xs1.length (0 : Nat) xs1.length xs1.length (List.length (bytesOf s)) (1 : Nat)) <|
 .obl (curOk (xs1.length + (List.length (bytesOf s))) (0 : Nat) (xs1.length + (List.length (bytesOf s))) (List.length (xs1 ++ (bytesOf s)))) <|
 .obl ((xs1.length + (List.length (bytesOf s))) = (List.length (xs1 ++ (bytesOf s)))) <|
 .ret ((Nat.cast s.length : Int),((),(xs1 ++ (bytesOf s))))
def dec_Print (a : Rat) : T Str :=
 T.bind (rat_Norm a) fun r =>
 T.bind (dec_sign r) fun r1 =>
 T.bind (nat_Print r.2.1) fun r2 =>
 .obl ((r1.length + r2.length) ≤ (4611686018427387904 : Nat)) <|
 T.bind (nat_Of (1 : Int)) fun r3 =>
 T.bind (nat_Cmp r.2.2.1 r3) fun r4 =>
 .ite (r4 != 0)
  (T.bind (nat_Print r.2.2.1) fun r5 =>
 .obl (((List.length ([47] : Str)) + r5.length) ≤ (4611686018427387904 : Nat)) <|
 .obl (((List.length (cat r1 r2)) + (List.length (cat ([47] : Str) r5))) ≤ (4611686018427387904 : Nat)) <|
 .ret (cat (cat r1 r2) (cat ([47] : Str) r5)))
  (.ret (cat r1 r2))
def sheet_when (s : Str) : T Str :=
 .ite (strEq s ([] : Str))
  (.ret ([] : Str))
  (.obl (((List.length ([32,119,104,101,110,32] : Str)) + s.length) ≤ (4611686018427387904 : Nat)) <|
 .ret (cat ([32,119,104,101,110,32] : Str) s))
def strconv_Itoa (n : Int) : T Str :=
 .obl ((-9223372036854775808 : Int) ≤ n ∧ n ≤ (9223372036854775807 : Int)) <|
 .ret (itoaS n)
def sheet_field (x : Field) : T Str :=
 .obl (((List.length ([102,105,101,108,100,32] : Str)) + x.1.length) ≤ (4611686018427387904 : Nat)) <|
 .obl ((x.2.2.1 = true) → (((List.length (cat ([102,105,101,108,100,32] : Str) x.1)) + (List.length ([32,109,117,115,116] : Str))) ≤ (4611686018427387904 : Nat))) <|
 .ite (decide ((0 : Int) < x.2.2.2.1))
  (T.bind (strconv_Itoa x.2.2.2.1) fun r =>
 .obl (((List.length ([32,115,99,97,108,101,32] : Str)) + r.length) ≤ (4611686018427387904 : Nat)) <|
 .obl (((List.length (bif x.2.2.1 then (cat (cat ([102,105,101,108,100,32] : Str) x.1) ([32,109,117,115,116] : Str)) else (cat ([102,105,101,108,100,32] : Str) x.1))) + (List.length (cat ([32,115,99,97,108,101,32] : Str) r))) ≤ (4611686018427387904 : Nat)) <|
 .obl (((List.length (cat (bif x.2.2.1 then (cat (cat ([102,105,101,108,100,32] : Str) x.1) ([32,109,117,115,116] : Str)) else (cat ([102,105,101,108,100,32] : Str) x.1)) (cat ([32,115,99,97,108,101,32] : Str) r))) + (List.length ([10] : Str))) ≤ (4611686018427387904 : Nat)) <|
 .ret (cat (cat (bif x.2.2.1 then (cat (cat ([102,105,101,108,100,32] : Str) x.1) ([32,109,117,115,116] : Str)) else (cat ([102,105,101,108,100,32] : Str) x.1)) (cat ([32,115,99,97,108,101,32] : Str) r)) ([10] : Str)))
  (.obl (((List.length (bif x.2.2.1 then (cat (cat ([102,105,101,108,100,32] : Str) x.1) ([32,109,117,115,116] : Str)) else (cat ([102,105,101,108,100,32] : Str) x.1))) + (List.length ([10] : Str))) ≤ (4611686018427387904 : Nat)) <|
 .ret (cat (bif x.2.2.1 then (cat (cat ([102,105,101,108,100,32] : Str) x.1) ([32,109,117,115,116] : Str)) else (cat ([102,105,101,108,100,32] : Str) x.1)) ([10] : Str)))
def expr_binds (e : AM.Expr) : T Int :=
 .ite (bif ((Expr.kind e) == 3) then ((Expr.kind e) == 3) else ((Expr.kind e) == 4))
  (.ret (1 : Int))
  (.ite (bif ((Expr.kind e) == 5) then ((Expr.kind e) == 5) else ((Expr.kind e) == 6))
  (.ret (2 : Int))
  (.ite ((Expr.kind e) == 7)
  (.ret (3 : Int))
  (.ret (4 : Int))))
def expr_placed (self_expr_print : AM.Expr → T Str) (e : AM.Expr) (least : Int) : T Str :=
 T.bind (expr_binds e) fun r =>
 .ite (decide (r < least))
  (T.bind (self_expr_print e) fun r1 =>
 .obl (((List.length ([40] : Str)) + r1.length) ≤ (4611686018427387904 : Nat)) <|
 .obl (((List.length (cat ([40] : Str) r1)) + (List.length ([41] : Str))) ≤ (4611686018427387904 : Nat)) <|
 .ret (cat (cat ([40] : Str) r1) ([41] : Str)))
  (T.bind (self_expr_print e) fun r2 =>
 .ret r2)
def expr_print_B (self_expr_print : AM.Expr → T Str) (e : AM.Expr) : T Str :=
 T.bind (.ite ((Expr.kind e) == 1)
  (T.bind (dec_Exact (Expr.num e)) fun (s,r) =>
 .ret (.inr s))
  (.ite ((Expr.kind e) == 2)
  (.ret (.inr (Expr.name e)))
  (.ite ((Expr.kind e) == 7)
  (.obl (idxOk (0 : Int) (List.length (Expr.kids e))) <|
 T.bind ((expr_placed self_expr_print) (nth (Expr.kids e) (0 : Int) (dflt .expr)) (3 : Int)) fun r1 =>
 .obl (((List.length ([45] : Str)) + r1.length) ≤ (4611686018427387904 : Nat)) <|
 .ret (.inr (cat ([45] : Str) r1)))
  (.ite ((Expr.kind e) == 3)
  (.ret (.inl ([32,43,32] : Str)))
  (.ite ((Expr.kind e) == 4)
  (.ret (.inl ([32,45,32] : Str)))
  (.ite ((Expr.kind e) == 5)
  (.ret (.inl ([32,42,32] : Str)))
  (.ite ((Expr.kind e) == 6)
  (.ret (.inl ([32,47,32] : Str)))
  (.ret (.inl ([] : Str))))))))) : T (Str ⊕ Str)) <|
 Sum.elim (fun mark =>
 .obl (idxOk (0 : Int) (List.length (Expr.kids e))) <|
 T.bind (expr_binds e) fun r2 =>
 T.bind ((expr_placed self_expr_print) (nth (Expr.kids e) (0 : Int) (dflt .expr)) r2) fun r3 =>
 .obl ((r3.length + mark.length) ≤ (4611686018427387904 : Nat)) <|
 .obl (idxOk (1 : Int) (List.length (Expr.kids e))) <|
 T.bind (expr_binds e) fun r4 =>
 T.bind ((expr_placed self_expr_print) (nth (Expr.kids e) (1 : Int) (dflt .expr)) (w64 (r4 + 1))) fun r5 =>
 .obl (((List.length (cat r3 mark)) + r5.length) ≤ (4611686018427387904 : Nat)) <|
 .ret (cat (cat r3 mark) r5))
  (fun x =>
 .ret x)
def expr_print (e : AM.Expr) : T Str := T.fix (fun F x => expr_print_B (fun y0 => F (y0)) x) e
def expr_Print (e : AM.Expr) : T Str :=
 T.bind (expr_Is e) fun r =>
 .ite (!r)
  (.ret ([] : Str))
  (T.bind (expr_print e) fun r1 =>
 .ret r1)
def sheet_sides (l : AM.Expr) (sign : Str) (r : AM.Expr) : T Str :=
 T.bind (expr_Print l) fun r1 =>
 .obl (((List.length ([32,58,32] : Str)) + r1.length) ≤ (4611686018427387904 : Nat)) <|
 .obl (((List.length (cat ([32,58,32] : Str) r1)) + (List.length ([32] : Str))) ≤ (4611686018427387904 : Nat)) <|
 .obl (((List.length (cat (cat ([32,58,32] : Str) r1) ([32] : Str))) + sign.length) ≤ (4611686018427387904 : Nat)) <|
 .obl (((List.length (cat (cat (cat ([32,58,32] : Str) r1) ([32] : Str)) sign)) + (List.length ([32] : Str))) ≤ (4611686018427387904 : Nat)) <|
 T.bind (expr_Print r) fun r2 =>
 .obl (((List.length (cat (cat (cat (cat ([32,58,32] : Str) r1) ([32] : Str)) sign) ([32] : Str))) + r2.length) ≤ (4611686018427387904 : Nat)) <|
 .obl (((List.length (cat (cat (cat (cat (cat ([32,58,32] : Str) r1) ([32] : Str)) sign) ([32] : Str)) r2)) + (List.length ([10] : Str))) ≤ (4611686018427387904 : Nat)) <|
 .ret (cat (cat (cat (cat (cat (cat ([32,58,32] : Str) r1) ([32] : Str)) sign) ([32] : Str)) r2) ([10] : Str))
def sheet_page_S_R0 (i1 : Int) (f1 : Form) (x : (List Field)) (x1 : Int) : (Int × (Unit) × (List Int)) → T ((Int × (Unit) × (List Int)) ⊕ (((Unit) × (List Int))))
 | (x2,v,xs2) =>
 .ite (decide (x2 < x1))
  (.obl (idxOk x2 x.length) <|
 .ite ((nth x x2 (dflt tyField)).2.1 == i1)
  (T.bind (sheet_field (nth x x2 (dflt tyField))) fun r2 =>
 .obl (curOk xs2.length (0 : Nat) xs2.length xs2.length) <|
 .obl (xs2.length = xs2.length) <|
 T.bind (strings_Builder_WriteString_S r2 () xs2) fun (r3,w2,xs3) =>
 .obl (curOk xs3.length (0 : Nat) xs3.length xs3.length) <|
 .obl (xs3.length = xs3.length) <|
 .ret (.inl ((w64 (x2 + 1)),((),xs3))))
  (.obl (curOk xs2.length (0 : Nat) xs2.length xs2.length) <|
 .obl (xs2.length = xs2.length) <|
 .ret (.inl ((w64 (x2 + 1)),((),xs2)))))
  (.obl (curOk xs2.length (0 : Nat) xs2.length xs2.length) <|
 .obl (xs2.length = xs2.length) <|
 .ret (.inr ((),xs2)))
def sheet_page_S_L0 (i1 : Int) (f1 : Form) (x : (List Field)) (x1 : Int) (s : (Int × (Unit) × (List Int))) : T (((Unit) × (List Int))) := T.loop (sheet_page_S_R0 i1 f1 x x1) s
def sheet_page_S_R1 (i2 : Int) (x3 : (List Check)) (x4 : Int) : (Int × (Unit) × (List Int)) → T ((Int × (Unit) × (List Int)) ⊕ (((Unit) × (List Int))))
 | (x5,v2,xs5) =>
 .ite (decide (x5 < x4))
  (.obl (idxOk x5 x3.length) <|
 .ite ((nth x3 x5 (dflt tyCheck)).2.1 == i2)
  (.obl (((List.length ([99,104,101,99,107,32] : Str)) + (List.length (nth x3 x5 (dflt tyCheck)).1)) ≤ (4611686018427387904 : Nat)) <|
 T.bind (sheet_compares) fun r4 =>
 .obl (idxOk (nth x3 x5 (dflt tyCheck)).2.2.1 r4.length) <|
 T.bind (sheet_sides (Expr.mk (Expr.kind (nth x3 x5 (dflt tyCheck)).2.2.2.1) ((Expr.num (nth x3 x5 (dflt tyCheck)).2.2.2.1).1,((Expr.num (nth x3 x5 (dflt tyCheck)).2.2.2.1).2.1,((Expr.num (nth x3 x5 (dflt tyCheck)).2.2.2.1).2.2.1,()))) (Expr.name (nth x3 x5 (dflt tyCheck)).2.2.2.1) (Expr.kids (nth x3 x5 (dflt tyCheck)).2.2.2.1)) (nth r4 (nth x3 x5 (dflt tyCheck)).2.2.1 (dflt .str)) (Expr.mk (Expr.kind (nth x3 x5 (dflt tyCheck)).2.2.2.2.1) ((Expr.num (nth x3 x5 (dflt tyCheck)).2.2.2.2.1).1,((Expr.num (nth x3 x5 (dflt tyCheck)).2.2.2.2.1).2.1,((Expr.num (nth x3 x5 (dflt tyCheck)).2.2.2.2.1).2.2.1,()))) (Expr.name (nth x3 x5 (dflt tyCheck)).2.2.2.2.1) (Expr.kids (nth x3 x5 (dflt tyCheck)).2.2.2.2.1))) fun r5 =>
 .obl (((List.length (cat ([99,104,101,99,107,32] : Str) (nth x3 x5 (dflt tyCheck)).1)) + r5.length) ≤ (4611686018427387904 : Nat)) <|
 .obl (curOk xs5.length (0 : Nat) xs5.length xs5.length) <|
 .obl (xs5.length = xs5.length) <|
 T.bind (strings_Builder_WriteString_S (cat (cat ([99,104,101,99,107,32] : Str) (nth x3 x5 (dflt tyCheck)).1) r5) () xs5) fun (r6,w3,xs6) =>
 .obl (curOk xs6.length (0 : Nat) xs6.length xs6.length) <|
 .obl (xs6.length = xs6.length) <|
 .ret (.inl ((w64 (x5 + 1)),((),xs6))))
  (.obl (curOk xs5.length (0 : Nat) xs5.length xs5.length) <|
 .obl (xs5.length = xs5.length) <|
 .ret (.inl ((w64 (x5 + 1)),((),xs5)))))
  (.obl (curOk xs5.length (0 : Nat) xs5.length xs5.length) <|
 .obl (xs5.length = xs5.length) <|
 .ret (.inr ((),xs5)))
def sheet_page_S_L1 (i2 : Int) (x3 : (List Check)) (x4 : Int) (s : (Int × (Unit) × (List Int))) : T (((Unit) × (List Int))) := T.loop (sheet_page_S_R1 i2 x3 x4) s
def sheet_page_S (f : Form) (i : Int) (w : (Unit)) (xs : (List Int)) : T ((Unit) × (List Int)) :=
 .obl (idxOk i f.2.2.1.length) <|
 .obl (((List.length ([112,97,103,101,32] : Str)) + (List.length (nth f.2.2.1 i (dflt tyPage)).1)) ≤ (4611686018427387904 : Nat)) <|
 .obl (idxOk i f.2.2.1.length) <|
 T.bind (sheet_when (nth f.2.2.1 i (dflt tyPage)).2.1) fun r =>
 .obl (((List.length (cat ([112,97,103,101,32] : Str) (nth f.2.2.1 i (dflt tyPage)).1)) + r.length) ≤ (4611686018427387904 : Nat)) <|
 .obl (((List.length (cat (cat ([112,97,103,101,32] : Str) (nth f.2.2.1 i (dflt tyPage)).1) r)) + (List.length ([10] : Str))) ≤ (4611686018427387904 : Nat)) <|
 .obl (curOk xs.length (0 : Nat) xs.length xs.length) <|
 .obl (xs.length = xs.length) <|
 T.bind (strings_Builder_WriteString_S (cat (cat (cat ([112,97,103,101,32] : Str) (nth f.2.2.1 i (dflt tyPage)).1) r) ([10] : Str)) () xs) fun (r1,w1,xs1) =>
 .obl (curOk xs1.length (0 : Nat) xs1.length xs1.length) <|
 .obl (xs1.length = xs1.length) <|
 T.bind (sheet_page_S_L0 i f f.2.2.2.1 (Nat.cast f.2.2.2.1.length : Int) ((0 : Int),((),xs1))) fun (v1,xs4) =>
 .obl (curOk xs4.length (0 : Nat) xs4.length xs4.length) <|
 .obl (xs4.length = xs4.length) <|
 T.bind (sheet_page_S_L1 i f.2.2.2.2.2.1 (Nat.cast f.2.2.2.2.2.1.length : Int) ((0 : Int),((),xs4))) fun (v3,xs7) =>
 .obl (curOk xs7.length (0 : Nat) xs7.length xs7.length) <|
 .obl (xs7.length = xs7.length) <|
 .ret ((),xs7)
def bld_String (v : Unit) (l : List Int) : T (Str × Unit) := strT l
def sheet_print_R0 (f1 : Form) (x : (List Switch)) (x1 : Int) : (Int × (Unit) × (List Int)) → T ((Int × (Unit) × (List Int)) ⊕ (((Unit) × (List Int))))
 | (x2,v,xs) =>
 .ite (decide (x2 < x1))
  (.obl (idxOk x2 x.length) <|
 .obl (((List.length ([115,119,105,116,99,104,32] : Str)) + (List.length (nth x x2 (dflt tySwitch)).1)) ≤ (4611686018427387904 : Nat)) <|
 .obl (((List.length (cat ([115,119,105,116,99,104,32] : Str) (nth x x2 (dflt tySwitch)).1)) + (List.length (bif (nth x x2 (dflt tySwitch)).2.1 then ([32,111,110,10] : Str) else ([32,111,102,102,10] : Str)))) ≤ (4611686018427387904 : Nat)) <|
 .obl (curOk xs.length (0 : Nat) xs.length xs.length) <|
 .obl (xs.length = xs.length) <|
 T.bind (strings_Builder_WriteString_S (cat (cat ([115,119,105,116,99,104,32] : Str) (nth x x2 (dflt tySwitch)).1) (bif (nth x x2 (dflt tySwitch)).2.1 then ([32,111,110,10] : Str) else ([32,111,102,102,10] : Str))) () xs) fun (r,w,xs1) =>
 .obl (curOk xs1.length (0 : Nat) xs1.length xs1.length) <|
 .obl (xs1.length = xs1.length) <|
 .ret (.inl ((w64 (x2 + 1)),((),xs1))))
  (.obl (curOk xs.length (0 : Nat) xs.length xs.length) <|
 .obl (xs.length = xs.length) <|
 .ret (.inr ((),xs)))
def sheet_print_L0 (f1 : Form) (x : (List Switch)) (x1 : Int) (s : (Int × (Unit) × (List Int))) : T (((Unit) × (List Int))) := T.loop (sheet_print_R0 f1 x x1) s
def sheet_print_R1 (f2 : Form) (x3 : (List Param)) (x4 : Int) : (Int × (Unit) × (List Int)) → T ((Int × (Unit) × (List Int)) ⊕ (((Unit) × (List Int))))
 | (x5,v2,xs3) =>
 .ite (decide (x5 < x4))
  (.obl (idxOk x5 x3.length) <|
 .obl (((List.length ([112,97,114,97,109,32] : Str)) + (List.length (nth x3 x5 (dflt tyParam)).1)) ≤ (4611686018427387904 : Nat)) <|
 .obl (((List.length (cat ([112,97,114,97,109,32] : Str) (nth x3 x5 (dflt tyParam)).1)) + (List.length ([32] : Str))) ≤ (4611686018427387904 : Nat)) <|
 T.bind (dec_Print ((nth x3 x5 (dflt tyParam)).2.1.1,((nth x3 x5 (dflt tyParam)).2.1.2.1,((nth x3 x5 (dflt tyParam)).2.1.2.2.1,())))) fun r1 =>
 .obl (((List.length (cat (cat ([112,97,114,97,109,32] : Str) (nth x3 x5 (dflt tyParam)).1) ([32] : Str))) + r1.length) ≤ (4611686018427387904 : Nat)) <|
 .obl (((List.length (cat (cat (cat ([112,97,114,97,109,32] : Str) (nth x3 x5 (dflt tyParam)).1) ([32] : Str)) r1)) + (List.length ([10] : Str))) ≤ (4611686018427387904 : Nat)) <|
 .obl (curOk xs3.length (0 : Nat) xs3.length xs3.length) <|
 .obl (xs3.length = xs3.length) <|
 T.bind (strings_Builder_WriteString_S (cat (cat (cat (cat ([112,97,114,97,109,32] : Str) (nth x3 x5 (dflt tyParam)).1) ([32] : Str)) r1) ([10] : Str)) () xs3) fun (r2,w1,xs4) =>
 .obl (curOk xs4.length (0 : Nat) xs4.length xs4.length) <|
 .obl (xs4.length = xs4.length) <|
 .ret (.inl ((w64 (x5 + 1)),((),xs4))))
  (.obl (curOk xs3.length (0 : Nat) xs3.length xs3.length) <|
 .obl (xs3.length = xs3.length) <|
 .ret (.inr ((),xs3)))
def sheet_print_L1 (f2 : Form) (x3 : (List Param)) (x4 : Int) (s : (Int × (Unit) × (List Int))) : T (((Unit) × (List Int))) := T.loop (sheet_print_R1 f2 x3 x4) s
def sheet_print_R2 (f3 : Form) (x6 : Int) : (Int × (Unit) × (List Int)) → T ((Int × (Unit) × (List Int)) ⊕ (((Unit) × (List Int))))
 | (x7,v4,xs6) =>
 .ite (decide (x7 < x6))
  (.obl (curOk xs6.length (0 : Nat) xs6.length xs6.length) <|
 .obl (xs6.length = xs6.length) <|
 T.bind (sheet_page_S f3 x7 () xs6) fun (w2,xs7) =>
 .obl (curOk xs7.length (0 : Nat) xs7.length xs7.length) <|
 .obl (xs7.length = xs7.length) <|
 .ret (.inl ((w64 (x7 + 1)),((),xs7))))
  (.obl (curOk xs6.length (0 : Nat) xs6.length xs6.length) <|
 .obl (xs6.length = xs6.length) <|
 .ret (.inr ((),xs6)))
def sheet_print_L2 (f3 : Form) (x6 : Int) (s : (Int × (Unit) × (List Int))) : T (((Unit) × (List Int))) := T.loop (sheet_print_R2 f3 x6) s
def sheet_print_R3 (x8 : (List Rule)) (x9 : Int) : (Int × (Unit) × (List Int)) → T ((Int × (Unit) × (List Int)) ⊕ (((Unit) × (List Int))))
 | (x10,v6,xs9) =>
 .ite (decide (x10 < x9))
  (.obl (idxOk x10 x8.length) <|
 T.bind (sheet_strengths) fun r3 =>
 .obl (idxOk (nth x8 x10 (dflt tyRule)).2.1 r3.length) <|
 .obl (((List.length ([114,117,108,101,32] : Str)) + (List.length (nth r3 (nth x8 x10 (dflt tyRule)).2.1 (dflt .str)))) ≤ (4611686018427387904 : Nat)) <|
 .obl (((List.length (cat ([114,117,108,101,32] : Str) (nth r3 (nth x8 x10 (dflt tyRule)).2.1 (dflt .str)))) + (List.length ([32] : Str))) ≤ (4611686018427387904 : Nat)) <|
 .obl (((List.length (cat (cat ([114,117,108,101,32] : Str) (nth r3 (nth x8 x10 (dflt tyRule)).2.1 (dflt .str))) ([32] : Str))) + (List.length (nth x8 x10 (dflt tyRule)).1)) ≤ (4611686018427387904 : Nat)) <|
 T.bind (sheet_when (nth x8 x10 (dflt tyRule)).2.2.1) fun r4 =>
 .obl (((List.length (cat (cat (cat ([114,117,108,101,32] : Str) (nth r3 (nth x8 x10 (dflt tyRule)).2.1 (dflt .str))) ([32] : Str)) (nth x8 x10 (dflt tyRule)).1)) + r4.length) ≤ (4611686018427387904 : Nat)) <|
 T.bind (sheet_sides (Expr.mk (Expr.kind (nth x8 x10 (dflt tyRule)).2.2.2.1) ((Expr.num (nth x8 x10 (dflt tyRule)).2.2.2.1).1,((Expr.num (nth x8 x10 (dflt tyRule)).2.2.2.1).2.1,((Expr.num (nth x8 x10 (dflt tyRule)).2.2.2.1).2.2.1,()))) (Expr.name (nth x8 x10 (dflt tyRule)).2.2.2.1) (Expr.kids (nth x8 x10 (dflt tyRule)).2.2.2.1)) ([61] : Str) (Expr.mk (Expr.kind (nth x8 x10 (dflt tyRule)).2.2.2.2.1) ((Expr.num (nth x8 x10 (dflt tyRule)).2.2.2.2.1).1,((Expr.num (nth x8 x10 (dflt tyRule)).2.2.2.2.1).2.1,((Expr.num (nth x8 x10 (dflt tyRule)).2.2.2.2.1).2.2.1,()))) (Expr.name (nth x8 x10 (dflt tyRule)).2.2.2.2.1) (Expr.kids (nth x8 x10 (dflt tyRule)).2.2.2.2.1))) fun r5 =>
 .obl (((List.length (cat (cat (cat (cat ([114,117,108,101,32] : Str) (nth r3 (nth x8 x10 (dflt tyRule)).2.1 (dflt .str))) ([32] : Str)) (nth x8 x10 (dflt tyRule)).1) r4)) + r5.length) ≤ (4611686018427387904 : Nat)) <|
 .obl (curOk xs9.length (0 : Nat) xs9.length xs9.length) <|
 .obl (xs9.length = xs9.length) <|
 T.bind (strings_Builder_WriteString_S (cat (cat (cat (cat (cat ([114,117,108,101,32] : Str) (nth r3 (nth x8 x10 (dflt tyRule)).2.1 (dflt .str))) ([32] : Str)) (nth x8 x10 (dflt tyRule)).1) r4) r5) () xs9) fun (r6,w3,xs10) =>
 .obl (curOk xs10.length (0 : Nat) xs10.length xs10.length) <|
 .obl (xs10.length = xs10.length) <|
 .ret (.inl ((w64 (x10 + 1)),((),xs10))))
  (.obl (curOk xs9.length (0 : Nat) xs9.length xs9.length) <|
 .obl (xs9.length = xs9.length) <|
 .ret (.inr ((),xs9)))
def sheet_print_L3 (x8 : (List Rule)) (x9 : Int) (s : (Int × (Unit) × (List Int))) : T (((Unit) × (List Int))) := T.loop (sheet_print_R3 x8 x9) s
def sheet_print (f : Form) : T Str :=
 .obl (curOk (0 : Nat) (0 : Nat) (0 : Nat) (0 : Nat)) <|
 .obl ((0 : Nat) = (0 : Nat)) <|
 T.bind (sheet_print_L0 f f.1 (Nat.cast f.1.length : Int) ((0 : Int),((),([] : List Int)))) fun (v1,xs2) =>
 .obl (curOk xs2.length (0 : Nat) xs2.length xs2.length) <|
 .obl (xs2.length = xs2.length) <|
 T.bind (sheet_print_L1 f f.2.1 (Nat.cast f.2.1.length : Int) ((0 : Int),((),xs2))) fun (v3,xs5) =>
 .obl (curOk xs5.length (0 : Nat) xs5.length xs5.length) <|
 .obl (xs5.length = xs5.length) <|
 T.bind (sheet_print_L2 f (Nat.cast f.2.2.1.length : Int) ((0 : Int),((),xs5))) fun (v5,xs8) =>
 .obl (curOk xs8.length (0 : Nat) xs8.length xs8.length) <|
 .obl (xs8.length = xs8.length) <|
 T.bind (sheet_print_L3 f.2.2.2.2.1 (Nat.cast f.2.2.2.2.1.length : Int) ((0 : Int),((),xs8))) fun (v7,xs11) =>
 .obl (curOk xs11.length (0 : Nat) xs11.length xs11.length) <|
 .obl (xs11.length = xs11.length) <|
 T.bind (bld_String () xs11) fun (r7,w4) =>
 .ret r7
def sheet_Is (f : Form) : T Bool :=
 T.bind (sheet_heads f) fun r =>
 .ite r
  (T.bind (sheet_fields f) fun r1 =>
 .ite r1
  (T.bind (sheet_checks f) fun r2 =>
 .ite r2
  (T.bind (sheet_print f) fun r3 =>
 .ret (decide ((Nat.cast r3.length : Int) ≤ (16384 : Int))))
  (.ret false))
  (.ret false))
  (.ret false)
def check_names_R0 (f1 : Form) (x : (List Switch)) (x1 : Int) : (Int × (List Str)) → T ((Int × (List Str)) ⊕ ((List Str)))
 | (x2,xs) =>
 .ite (decide (x2 < x1))
  (.obl (idxOk x2 x.length) <|
 .obl (appOk xs.length xs.length (0 : Nat) xs.length xs.length (1 : Nat) (16 : Nat)) <|
 .obl (curOk (xs.length + (1 : Nat)) (0 : Nat) (xs.length + (1 : Nat)) (List.length (xs ++ ([(nth x x2 (dflt tySwitch)).1] : List Str)))) <|
 .obl ((xs.length + (1 : Nat)) = (List.length (xs ++ ([(nth x x2 (dflt tySwitch)).1] : List Str)))) <|
 .ret (.inl ((w64 (x2 + 1)),(xs ++ ([(nth x x2 (dflt tySwitch)).1] : List Str)))))
  (.obl (curOk xs.length (0 : Nat) xs.length xs.length) <|
 .obl (xs.length = xs.length) <|
 .ret (.inr xs))
def check_names_L0 (f1 : Form) (x : (List Switch)) (x1 : Int) (s : (Int × (List Str))) : T ((List Str)) := T.loop (check_names_R0 f1 x x1) s
def check_names_R1 (f2 : Form) (x3 : (List Param)) (x4 : Int) : (Int × (List Str)) → T ((Int × (List Str)) ⊕ ((List Str)))
 | (x5,xs2) =>
 .ite (decide (x5 < x4))
  (.obl (idxOk x5 x3.length) <|
 .obl (appOk xs2.length xs2.length (0 : Nat) xs2.length xs2.length (1 : Nat) (16 : Nat)) <|
 .obl (curOk (xs2.length + (1 : Nat)) (0 : Nat) (xs2.length + (1 : Nat)) (List.length (xs2 ++ ([(nth x3 x5 (dflt tyParam)).1] : List Str)))) <|
 .obl ((xs2.length + (1 : Nat)) = (List.length (xs2 ++ ([(nth x3 x5 (dflt tyParam)).1] : List Str)))) <|
 .ret (.inl ((w64 (x5 + 1)),(xs2 ++ ([(nth x3 x5 (dflt tyParam)).1] : List Str)))))
  (.obl (curOk xs2.length (0 : Nat) xs2.length xs2.length) <|
 .obl (xs2.length = xs2.length) <|
 .ret (.inr xs2))
def check_names_L1 (f2 : Form) (x3 : (List Param)) (x4 : Int) (s : (Int × (List Str))) : T ((List Str)) := T.loop (check_names_R1 f2 x3 x4) s
def check_names_R2 (f3 : Form) (x6 : (List Page)) (x7 : Int) : (Int × (List Str)) → T ((Int × (List Str)) ⊕ ((List Str)))
 | (x8,xs4) =>
 .ite (decide (x8 < x7))
  (.obl (idxOk x8 x6.length) <|
 .obl (appOk xs4.length xs4.length (0 : Nat) xs4.length xs4.length (1 : Nat) (16 : Nat)) <|
 .obl (curOk (xs4.length + (1 : Nat)) (0 : Nat) (xs4.length + (1 : Nat)) (List.length (xs4 ++ ([(nth x6 x8 (dflt tyPage)).1] : List Str)))) <|
 .obl ((xs4.length + (1 : Nat)) = (List.length (xs4 ++ ([(nth x6 x8 (dflt tyPage)).1] : List Str)))) <|
 .ret (.inl ((w64 (x8 + 1)),(xs4 ++ ([(nth x6 x8 (dflt tyPage)).1] : List Str)))))
  (.obl (curOk xs4.length (0 : Nat) xs4.length xs4.length) <|
 .obl (xs4.length = xs4.length) <|
 .ret (.inr xs4))
def check_names_L2 (f3 : Form) (x6 : (List Page)) (x7 : Int) (s : (Int × (List Str))) : T ((List Str)) := T.loop (check_names_R2 f3 x6 x7) s
def check_names_R3 (f4 : Form) (x9 : (List Field)) (x10 : Int) : (Int × (List Str)) → T ((Int × (List Str)) ⊕ ((List Str)))
 | (x11,xs6) =>
 .ite (decide (x11 < x10))
  (.obl (idxOk x11 x9.length) <|
 .obl (appOk xs6.length xs6.length (0 : Nat) xs6.length xs6.length (1 : Nat) (16 : Nat)) <|
 .obl (curOk (xs6.length + (1 : Nat)) (0 : Nat) (xs6.length + (1 : Nat)) (List.length (xs6 ++ ([(nth x9 x11 (dflt tyField)).1] : List Str)))) <|
 .obl ((xs6.length + (1 : Nat)) = (List.length (xs6 ++ ([(nth x9 x11 (dflt tyField)).1] : List Str)))) <|
 .ret (.inl ((w64 (x11 + 1)),(xs6 ++ ([(nth x9 x11 (dflt tyField)).1] : List Str)))))
  (.obl (curOk xs6.length (0 : Nat) xs6.length xs6.length) <|
 .obl (xs6.length = xs6.length) <|
 .ret (.inr xs6))
def check_names_L3 (f4 : Form) (x9 : (List Field)) (x10 : Int) (s : (Int × (List Str))) : T ((List Str)) := T.loop (check_names_R3 f4 x9 x10) s
def check_names_R4 (f5 : Form) (x12 : (List Rule)) (x13 : Int) : (Int × (List Str)) → T ((Int × (List Str)) ⊕ ((List Str)))
 | (x14,xs8) =>
 .ite (decide (x14 < x13))
  (.obl (idxOk x14 x12.length) <|
 .obl (appOk xs8.length xs8.length (0 : Nat) xs8.length xs8.length (1 : Nat) (16 : Nat)) <|
 .obl (curOk (xs8.length + (1 : Nat)) (0 : Nat) (xs8.length + (1 : Nat)) (List.length (xs8 ++ ([(nth x12 x14 (dflt tyRule)).1] : List Str)))) <|
 .obl ((xs8.length + (1 : Nat)) = (List.length (xs8 ++ ([(nth x12 x14 (dflt tyRule)).1] : List Str)))) <|
 .ret (.inl ((w64 (x14 + 1)),(xs8 ++ ([(nth x12 x14 (dflt tyRule)).1] : List Str)))))
  (.obl (curOk xs8.length (0 : Nat) xs8.length xs8.length) <|
 .obl (xs8.length = xs8.length) <|
 .ret (.inr xs8))
def check_names_L4 (f5 : Form) (x12 : (List Rule)) (x13 : Int) (s : (Int × (List Str))) : T ((List Str)) := T.loop (check_names_R4 f5 x12 x13) s
def check_names_R5 (x15 : (List Check)) (x16 : Int) : (Int × (List Str)) → T ((Int × (List Str)) ⊕ ((List Str)))
 | (x17,xs10) =>
 .ite (decide (x17 < x16))
  (.obl (idxOk x17 x15.length) <|
 .obl (appOk xs10.length xs10.length (0 : Nat) xs10.length xs10.length (1 : Nat) (16 : Nat)) <|
 .obl (curOk (xs10.length + (1 : Nat)) (0 : Nat) (xs10.length + (1 : Nat)) (List.length (xs10 ++ ([(nth x15 x17 (dflt tyCheck)).1] : List Str)))) <|
 .obl ((xs10.length + (1 : Nat)) = (List.length (xs10 ++ ([(nth x15 x17 (dflt tyCheck)).1] : List Str)))) <|
 .ret (.inl ((w64 (x17 + 1)),(xs10 ++ ([(nth x15 x17 (dflt tyCheck)).1] : List Str)))))
  (.obl (curOk xs10.length (0 : Nat) xs10.length xs10.length) <|
 .obl (xs10.length = xs10.length) <|
 .ret (.inr xs10))
def check_names_L5 (x15 : (List Check)) (x16 : Int) (s : (Int × (List Str))) : T ((List Str)) := T.loop (check_names_R5 x15 x16) s
def check_names (f : Form) : T (List Str) :=
 .obl (curOk (0 : Nat) (0 : Nat) (0 : Nat) (0 : Nat)) <|
 .obl ((0 : Nat) = (0 : Nat)) <|
 T.bind (check_names_L0 f f.1 (Nat.cast f.1.length : Int) ((0 : Int),([] : List Str))) fun xs1 =>
 .obl (curOk xs1.length (0 : Nat) xs1.length xs1.length) <|
 .obl (xs1.length = xs1.length) <|
 T.bind (check_names_L1 f f.2.1 (Nat.cast f.2.1.length : Int) ((0 : Int),xs1)) fun xs3 =>
 .obl (curOk xs3.length (0 : Nat) xs3.length xs3.length) <|
 .obl (xs3.length = xs3.length) <|
 T.bind (check_names_L2 f f.2.2.1 (Nat.cast f.2.2.1.length : Int) ((0 : Int),xs3)) fun xs5 =>
 .obl (curOk xs5.length (0 : Nat) xs5.length xs5.length) <|
 .obl (xs5.length = xs5.length) <|
 T.bind (check_names_L3 f f.2.2.2.1 (Nat.cast f.2.2.2.1.length : Int) ((0 : Int),xs5)) fun xs7 =>
 .obl (curOk xs7.length (0 : Nat) xs7.length xs7.length) <|
 .obl (xs7.length = xs7.length) <|
 T.bind (check_names_L4 f f.2.2.2.2.1 (Nat.cast f.2.2.2.2.1.length : Int) ((0 : Int),xs7)) fun xs9 =>
 .obl (curOk xs9.length (0 : Nat) xs9.length xs9.length) <|
 .obl (xs9.length = xs9.length) <|
 T.bind (check_names_L5 f.2.2.2.2.2.1 (Nat.cast f.2.2.2.2.2.1.length : Int) ((0 : Int),xs9)) fun xs11 =>
 .obl (xs11.length = xs11.length) <|
 .ret (List.drop (0 : Nat) (List.take ((0 : Nat) + xs11.length) xs11))
def twR : List Str → List Str → Str × Bool
 | _,[] => ([],false)
 | seen,x :: r => if x ∈ seen then (x,true) else twR (seen ++ [x]) r
def check_twice (l : List Str) : T (Str × Bool) := .obl (List.length l * 16 ≤ 140737488351232 ∧ ∀ s ∈ l,List.length s ≤ 9223372036854775807) <| .ret (twR [] l)
def check_unguarded_f1_f1 (x : Switch) (c1 : Str) : T Bool :=
 .ret (strEq x.1 c1)
def check_unguarded_f1 (s : Str) (c1 : Form) : T Bool :=
 .ite (!(strEq s ([] : Str)))
  (T.bind (slices_ContainsFunc_sl_Switch c1.1 (fun z0 => check_unguarded_f1_f1 z0 s)) fun r =>
 .ret (!r))
  (.ret false)
def slices_IndexFunc_sl_string_R0 (s1 : (List Str)) (f : Str → T Bool) (x : Int) : Int → T (Int ⊕ (Unit ⊕ Int))
 | x1 =>
 .ite (decide (x1 < x))
  (.obl (idxOk x1 s1.length) <|
 T.bind (f (nth s1 x1 (dflt .str))) fun r =>
 .ite r
  (.ret (.inr (.inr x1)))
  (.ret (.inl (w64 (x1 + 1)))))
  (.ret (.inr (.inl ())))
def slices_IndexFunc_sl_string_L0 (s1 : (List Str)) (f : Str → T Bool) (x : Int) (s : Int) : T (Unit ⊕ Int) := T.loop (slices_IndexFunc_sl_string_R0 s1 f x) s
def slices_IndexFunc_sl_string (s : (List Str)) (f : Str → T Bool) : T Int :=
 T.bind (slices_IndexFunc_sl_string_L0 s f (Nat.cast s.length : Int) (0 : Int)) <|
 Sum.elim (fun _ =>
 .ret (-1 : Int))
  (fun x2 =>
 .ret x2)
def check_unguarded_R0 (f1 : Form) (x : (List Page)) (x1 : Int) : (Int × (List Str)) → T ((Int × (List Str)) ⊕ ((List Str)))
 | (x2,xs) =>
 .ite (decide (x2 < x1))
  (.obl (idxOk x2 x.length) <|
 .obl (appOk xs.length xs.length (0 : Nat) xs.length xs.length (1 : Nat) (16 : Nat)) <|
 .obl (curOk (xs.length + (1 : Nat)) (0 : Nat) (xs.length + (1 : Nat)) (List.length (xs ++ ([(nth x x2 (dflt tyPage)).2.1] : List Str)))) <|
 .obl ((xs.length + (1 : Nat)) = (List.length (xs ++ ([(nth x x2 (dflt tyPage)).2.1] : List Str)))) <|
 .ret (.inl ((w64 (x2 + 1)),(xs ++ ([(nth x x2 (dflt tyPage)).2.1] : List Str)))))
  (.obl (curOk xs.length (0 : Nat) xs.length xs.length) <|
 .obl (xs.length = xs.length) <|
 .ret (.inr xs))
def check_unguarded_L0 (f1 : Form) (x : (List Page)) (x1 : Int) (s : (Int × (List Str))) : T ((List Str)) := T.loop (check_unguarded_R0 f1 x x1) s
def check_unguarded_R1 (f2 : Form) (x3 : (List Rule)) (x4 : Int) : (Int × (List Str)) → T ((Int × (List Str)) ⊕ ((List Str)))
 | (x5,xs2) =>
 .ite (decide (x5 < x4))
  (.obl (idxOk x5 x3.length) <|
 .obl (appOk xs2.length xs2.length (0 : Nat) xs2.length xs2.length (1 : Nat) (16 : Nat)) <|
 .obl (curOk (xs2.length + (1 : Nat)) (0 : Nat) (xs2.length + (1 : Nat)) (List.length (xs2 ++ ([(nth x3 x5 (dflt tyRule)).2.2.1] : List Str)))) <|
 .obl ((xs2.length + (1 : Nat)) = (List.length (xs2 ++ ([(nth x3 x5 (dflt tyRule)).2.2.1] : List Str)))) <|
 .ret (.inl ((w64 (x5 + 1)),(xs2 ++ ([(nth x3 x5 (dflt tyRule)).2.2.1] : List Str)))))
  (.obl (curOk xs2.length (0 : Nat) xs2.length xs2.length) <|
 .obl (xs2.length = xs2.length) <|
 .ret (.inr xs2))
def check_unguarded_L1 (f2 : Form) (x3 : (List Rule)) (x4 : Int) (s : (Int × (List Str))) : T ((List Str)) := T.loop (check_unguarded_R1 f2 x3 x4) s
def check_unguarded (f : Form) : T (Str × Bool) :=
 .obl (curOk (0 : Nat) (0 : Nat) (0 : Nat) (0 : Nat)) <|
 .obl ((0 : Nat) = (0 : Nat)) <|
 T.bind (check_unguarded_L0 f f.2.2.1 (Nat.cast f.2.2.1.length : Int) ((0 : Int),([] : List Str))) fun xs1 =>
 .obl (curOk xs1.length (0 : Nat) xs1.length xs1.length) <|
 .obl (xs1.length = xs1.length) <|
 T.bind (check_unguarded_L1 f f.2.2.2.2.1 (Nat.cast f.2.2.2.2.1.length : Int) ((0 : Int),xs1)) fun xs3 =>
 .obl (xs3.length = xs3.length) <|
 T.bind (slices_IndexFunc_sl_string (List.drop (0 : Nat) (List.take ((0 : Nat) + xs3.length) xs3)) (fun z0 => check_unguarded_f1 z0 f)) fun i =>
 .ite (decide (i < (0 : Int)))
  (.ret (([] : Str),false))
  (.obl (idxOk i xs3.length) <|
 .obl (eOk xs3.length xs3.length ((0 : Nat) + (Int.toNat i)) xs3.length) <|
 .ret ((nthN xs3 ((0 : Nat) + (Int.toNat i)) (dflt .str)),true))
def slices_Index_sl_string_R0 (s1 : (List Str)) (v1 : Str) (x : Int) : Int → T (Int ⊕ (Unit ⊕ Int))
 | x1 =>
 .ite (decide (x1 < x))
  (.obl (idxOk x1 s1.length) <|
 .ite (strEq v1 (nth s1 x1 (dflt .str)))
  (.ret (.inr (.inr x1)))
  (.ret (.inl (w64 (x1 + 1)))))
  (.ret (.inr (.inl ())))
def slices_Index_sl_string_L0 (s1 : (List Str)) (v1 : Str) (x : Int) (s : Int) : T (Unit ⊕ Int) := T.loop (slices_Index_sl_string_R0 s1 v1 x) s
def slices_Index_sl_string (s : (List Str)) (v : Str) : T Int :=
 T.bind (slices_Index_sl_string_L0 s v (Nat.cast s.length : Int) (0 : Int)) <|
 Sum.elim (fun _ =>
 .ret (-1 : Int))
  (fun x2 =>
 .ret x2)
def slices_Contains_sl_string (s : (List Str)) (v : Str) : T Bool :=
 T.bind (slices_Index_sl_string s v) fun r =>
 .ret (decide ((0 : Int) ≤ r))
def expr_names_S_R0 (self_expr_names : AM.Expr → (List Str) → T (List Str)) (x1 : (List AM.Expr)) (x2 : Int) : (Int × (List Str)) → T ((Int × (List Str)) ⊕ ((List Str)))
 | (x3,xs2) =>
 .ite (decide (x3 < x2))
  (.obl (idxOk x3 x1.length) <|
 .obl (curOk xs2.length (0 : Nat) xs2.length xs2.length) <|
 .obl (xs2.length = xs2.length) <|
 T.bind (self_expr_names (nth x1 x3 (dflt .expr)) xs2) fun l1 =>
 .obl (curOk l1.length (0 : Nat) l1.length l1.length) <|
 .obl (l1.length = l1.length) <|
 .ret (.inl ((w64 (x3 + 1)),l1)))
  (.obl (curOk xs2.length (0 : Nat) xs2.length xs2.length) <|
 .obl (xs2.length = xs2.length) <|
 .ret (.inr xs2))
def expr_names_S_L0 (self_expr_names : AM.Expr → (List Str) → T (List Str)) (x1 : (List AM.Expr)) (x2 : Int) (s : (Int × (List Str))) : T ((List Str)) := T.loop (expr_names_S_R0 self_expr_names x1 x2) s
def expr_names_S_B (self_expr_names : AM.Expr → (List Str) → T (List Str)) (e : AM.Expr) (l : (List Str)) : T (List Str) :=
 T.bind (T.bind (.ite ((Expr.kind e) == 2)
  (.obl (l.length = l.length) <|
 T.bind (slices_Contains_sl_string (List.drop (0 : Nat) (List.take ((0 : Nat) + l.length) l)) (Expr.name e)) fun r =>
 .obl (curOk l.length (0 : Nat) l.length l.length) <|
 .obl (l.length = l.length) <|
 .ret ((!r),l))
  (.obl (curOk l.length (0 : Nat) l.length l.length) <|
 .obl (l.length = l.length) <|
 .ret (false,l)) : T ((Bool × (List Str)))) fun (x,xs) =>
 .ite x
  (.obl (appOk xs.length xs.length (0 : Nat) xs.length xs.length (1 : Nat) (16 : Nat)) <|
 .obl (curOk (xs.length + (1 : Nat)) (0 : Nat) (xs.length + (1 : Nat)) (List.length (xs ++ ([(Expr.name e)] : List Str)))) <|
 .obl ((xs.length + (1 : Nat)) = (List.length (xs ++ ([(Expr.name e)] : List Str)))) <|
 .ret (xs ++ ([(Expr.name e)] : List Str)))
  (.obl (curOk xs.length (0 : Nat) xs.length xs.length) <|
 .obl (xs.length = xs.length) <|
 .ret xs) : T ((List Str))) fun xs1 =>
 .obl (curOk xs1.length (0 : Nat) xs1.length xs1.length) <|
 .obl (xs1.length = xs1.length) <|
 T.bind (expr_names_S_L0 self_expr_names (Expr.kids e) (Nat.cast (List.length (Expr.kids e)) : Int) ((0 : Int),xs1)) fun xs3 =>
 .obl (curOk xs3.length (0 : Nat) xs3.length xs3.length) <|
 .obl (xs3.length = xs3.length) <|
 .ret xs3
def expr_names_S (e : AM.Expr) (l : (List Str)) : T (List Str) := T.fix (fun F x => expr_names_S_B (fun y0 y1 => F (y0,y1)) x.1 x.2) (e,l)
def expr_names_SN_R0 (x1 : (List AM.Expr)) (x2 : Int) : (Int × (List Str)) → T ((Int × (List Str)) ⊕ ((List Str)))
 | (x3,xs2) =>
 .ite (decide (x3 < x2))
  (.obl (idxOk x3 x1.length) <|
 .obl (curOk xs2.length (0 : Nat) xs2.length xs2.length) <|
 .obl (xs2.length = xs2.length) <|
 T.bind (expr_names_S (nth x1 x3 (dflt .expr)) xs2) fun l1 =>
 .obl (curOk l1.length (0 : Nat) l1.length l1.length) <|
 .obl (l1.length = l1.length) <|
 .ret (.inl ((w64 (x3 + 1)),l1)))
  (.obl (curOk xs2.length (0 : Nat) xs2.length xs2.length) <|
 .obl (xs2.length = xs2.length) <|
 .ret (.inr xs2))
def expr_names_SN_L0 (x1 : (List AM.Expr)) (x2 : Int) (s : (Int × (List Str))) : T ((List Str)) := T.loop (expr_names_SN_R0 x1 x2) s
def expr_names_SN (e : AM.Expr) (l : (List Str)) : T (List Str) :=
 T.bind (T.bind (.ite ((Expr.kind e) == 2)
  (.obl (l.length = l.length) <|
 T.bind (slices_Contains_sl_string (List.drop (0 : Nat) (List.take ((0 : Nat) + l.length) l)) (Expr.name e)) fun r =>
 .obl (curOk l.length (0 : Nat) l.length l.length) <|
 .obl (l.length = l.length) <|
 .ret ((!r),l))
  (.obl (curOk l.length (0 : Nat) l.length l.length) <|
 .obl (l.length = l.length) <|
 .ret (false,l)) : T ((Bool × (List Str)))) fun (x,xs) =>
 .ite x
  (.obl (appOk xs.length xs.length (0 : Nat) xs.length xs.length (1 : Nat) (16 : Nat)) <|
 .obl (curOk (xs.length + (1 : Nat)) (0 : Nat) (xs.length + (1 : Nat)) (List.length (xs ++ ([(Expr.name e)] : List Str)))) <|
 .obl ((xs.length + (1 : Nat)) = (List.length (xs ++ ([(Expr.name e)] : List Str)))) <|
 .ret (xs ++ ([(Expr.name e)] : List Str)))
  (.obl (curOk xs.length (0 : Nat) xs.length xs.length) <|
 .obl (xs.length = xs.length) <|
 .ret xs) : T ((List Str))) fun xs1 =>
 .obl (curOk xs1.length (0 : Nat) xs1.length xs1.length) <|
 .obl (xs1.length = xs1.length) <|
 T.bind (expr_names_SN_L0 (Expr.kids e) (Nat.cast (List.length (Expr.kids e)) : Int) ((0 : Int),xs1)) fun xs3 =>
 .obl (curOk xs3.length (0 : Nat) xs3.length xs3.length) <|
 .obl (xs3.length = xs3.length) <|
 .ret xs3
def expr_Names (e : AM.Expr) : T (List Str) :=
 .obl (curOk (0 : Nat) (0 : Nat) (0 : Nat) (0 : Nat)) <|
 .obl ((0 : Nat) = (0 : Nat)) <|
 T.bind (expr_names_SN e ([] : List Str)) fun xs =>
 .obl (xs.length = xs.length) <|
 .ret (List.drop (0 : Nat) (List.take ((0 : Nat) + xs.length) xs))
def slices_Concat_sl_string (l : List (List Str)) : T (List Str) := .obl (List.length l * 24 ≤ 140737488351232 ∧ List.length (List.flatten l) * 16 ≤ 140737488355328 ∧ l ≠ []) <| .ret (List.flatten l)
def check_unknown_f1_f1 (p : Param) (c1 : Str) : T Bool :=
 .ret (strEq p.1 c1)
def check_unknown_f1 (s : Str) (c1 : (List Str)) (c2 : Form) : T Bool :=
 T.bind (slices_Contains_sl_string c1 s) fun r =>
 .ite (!r)
  (T.bind (slices_ContainsFunc_sl_Param c2.2.1 (fun z0 => check_unknown_f1_f1 z0 s)) fun r1 =>
 .ret (!r1))
  (.ret false)
def check_unknown_R0 (f1 : Form) (fields1 : (List Str)) (x : (List Check)) (x1 : Int) : ((List Str) × Int) → T (((List Str) × Int) ⊕ ((List Str)))
 | (l,x2) =>
 .ite (decide (x2 < x1))
  (.obl (idxOk x2 x.length) <|
 T.bind (expr_Names (Expr.mk (Expr.kind (nth x x2 (dflt tyCheck)).2.2.2.1) ((Expr.num (nth x x2 (dflt tyCheck)).2.2.2.1).1,((Expr.num (nth x x2 (dflt tyCheck)).2.2.2.1).2.1,((Expr.num (nth x x2 (dflt tyCheck)).2.2.2.1).2.2.1,()))) (Expr.name (nth x x2 (dflt tyCheck)).2.2.2.1) (Expr.kids (nth x x2 (dflt tyCheck)).2.2.2.1))) fun r =>
 T.bind (expr_Names (Expr.mk (Expr.kind (nth x x2 (dflt tyCheck)).2.2.2.2.1) ((Expr.num (nth x x2 (dflt tyCheck)).2.2.2.2.1).1,((Expr.num (nth x x2 (dflt tyCheck)).2.2.2.2.1).2.1,((Expr.num (nth x x2 (dflt tyCheck)).2.2.2.2.1).2.2.1,()))) (Expr.name (nth x x2 (dflt tyCheck)).2.2.2.2.1) (Expr.kids (nth x x2 (dflt tyCheck)).2.2.2.2.1))) fun r1 =>
 T.bind (slices_Concat_sl_string ([l,r,r1] : List (List Str))) fun l1 =>
 .ret (.inl (l1,(w64 (x2 + 1)))))
  (.ret (.inr l))
def check_unknown_L0 (f1 : Form) (fields1 : (List Str)) (x : (List Check)) (x1 : Int) (s : ((List Str) × Int)) : T ((List Str)) := T.loop (check_unknown_R0 f1 fields1 x x1) s
def check_unknown_R1 (f2 : Form) (fields2 : (List Str)) (x3 : (List Rule)) (x4 : Int) : ((List Str) × Int) → T (((List Str) × Int) ⊕ ((List Str)))
 | (l3,x5) =>
 .ite (decide (x5 < x4))
  (.obl (idxOk x5 x3.length) <|
 T.bind (expr_Names (Expr.mk (Expr.kind (nth x3 x5 (dflt tyRule)).2.2.2.1) ((Expr.num (nth x3 x5 (dflt tyRule)).2.2.2.1).1,((Expr.num (nth x3 x5 (dflt tyRule)).2.2.2.1).2.1,((Expr.num (nth x3 x5 (dflt tyRule)).2.2.2.1).2.2.1,()))) (Expr.name (nth x3 x5 (dflt tyRule)).2.2.2.1) (Expr.kids (nth x3 x5 (dflt tyRule)).2.2.2.1))) fun r2 =>
 T.bind (expr_Names (Expr.mk (Expr.kind (nth x3 x5 (dflt tyRule)).2.2.2.2.1) ((Expr.num (nth x3 x5 (dflt tyRule)).2.2.2.2.1).1,((Expr.num (nth x3 x5 (dflt tyRule)).2.2.2.2.1).2.1,((Expr.num (nth x3 x5 (dflt tyRule)).2.2.2.2.1).2.2.1,()))) (Expr.name (nth x3 x5 (dflt tyRule)).2.2.2.2.1) (Expr.kids (nth x3 x5 (dflt tyRule)).2.2.2.2.1))) fun r3 =>
 T.bind (slices_Concat_sl_string ([l3,r2,r3] : List (List Str))) fun l4 =>
 .ret (.inl (l4,(w64 (x5 + 1)))))
  (.ret (.inr l3))
def check_unknown_L1 (f2 : Form) (fields2 : (List Str)) (x3 : (List Rule)) (x4 : Int) (s : ((List Str) × Int)) : T ((List Str)) := T.loop (check_unknown_R1 f2 fields2 x3 x4) s
def check_unknown (f : Form) (fields : (List Str)) : T (Str × Bool) :=
 T.bind (check_unknown_L0 f fields f.2.2.2.2.2.1 (Nat.cast f.2.2.2.2.2.1.length : Int) (([] : List Str),(0 : Int))) fun l2 =>
 T.bind (check_unknown_L1 f fields f.2.2.2.2.1 (Nat.cast f.2.2.2.2.1.length : Int) (l2,(0 : Int))) fun l5 =>
 T.bind (slices_IndexFunc_sl_string l5 (fun z0 => check_unknown_f1 z0 fields f)) fun i =>
 .ite (decide (i < (0 : Int)))
  (.ret (([] : Str),false))
  (.obl (idxOk i l5.length) <|
 .ret ((nth l5 i (dflt .str)),true))
def check_Has_f1 (name : Str) (c1 : (List Str)) : T Bool :=
 T.bind (slices_Contains_sl_string c1 name) fun r =>
 .ret r
def slices_ContainsFunc_sl_string (s : (List Str)) (f : Str → T Bool) : T Bool :=
 T.bind (slices_IndexFunc_sl_string s f) fun r =>
 .ret (decide ((0 : Int) ≤ r))
def check_Has (e : AM.Expr) (fields : (List Str)) : T Bool :=
 T.bind (expr_Names e) fun r =>
 T.bind (slices_ContainsFunc_sl_string r (fun z0 => check_Has_f1 z0 fields)) fun r1 =>
 .ret r1
def check_Linear_f1 (self_check_Linear : AM.Expr → (List Str) → T Bool) (k : AM.Expr) (c1 : (List Str)) : T Bool :=
 T.bind (self_check_Linear k c1) fun r =>
 .ret (!r)
def slices_IndexFunc_sl_Expr_R0 (self_check_Linear : AM.Expr → (List Str) → T Bool) (s1 : (List AM.Expr)) (f : AM.Expr → T Bool) (x : Int) : Int → T (Int ⊕ (Unit ⊕ Int))
 | x1 =>
 .ite (decide (x1 < x))
  (.obl (idxOk x1 s1.length) <|
 T.bind (f (nth s1 x1 (dflt .expr))) fun r =>
 .ite r
  (.ret (.inr (.inr x1)))
  (.ret (.inl (w64 (x1 + 1)))))
  (.ret (.inr (.inl ())))
def slices_IndexFunc_sl_Expr_L0 (self_check_Linear : AM.Expr → (List Str) → T Bool) (s1 : (List AM.Expr)) (f : AM.Expr → T Bool) (x : Int) (s : Int) : T (Unit ⊕ Int) := T.loop (slices_IndexFunc_sl_Expr_R0 self_check_Linear s1 f x) s
def slices_IndexFunc_sl_Expr (self_check_Linear : AM.Expr → (List Str) → T Bool) (s : (List AM.Expr)) (f : AM.Expr → T Bool) : T Int :=
 T.bind (slices_IndexFunc_sl_Expr_L0 self_check_Linear s f (Nat.cast s.length : Int) (0 : Int)) <|
 Sum.elim (fun _ =>
 .ret (-1 : Int))
  (fun x2 =>
 .ret x2)
def slices_ContainsFunc_sl_Expr (self_check_Linear : AM.Expr → (List Str) → T Bool) (s : (List AM.Expr)) (f : AM.Expr → T Bool) : T Bool :=
 T.bind ((slices_IndexFunc_sl_Expr self_check_Linear) s f) fun r =>
 .ret (decide ((0 : Int) ≤ r))
def check_Linear_B (self_check_Linear : AM.Expr → (List Str) → T Bool) (e : AM.Expr) (fields : (List Str)) : T Bool :=
 T.bind (.ite ((Nat.cast (List.length (Expr.kids e)) : Int) == (2 : Int))
  (.obl (idxOk (0 : Int) (List.length (Expr.kids e))) <|
 .obl (idxOk (1 : Int) (List.length (Expr.kids e))) <|
 T.bind (.ite ((Expr.kind e) == 5)
  (T.bind (check_Has (nth (Expr.kids e) (0 : Int) (dflt .expr)) fields) fun r =>
 .ite r
  (T.bind (check_Has (nth (Expr.kids e) (1 : Int) (dflt .expr)) fields) fun r1 =>
 .ite r1
  (.ret (true,((nth (Expr.kids e) (0 : Int) (dflt .expr)),(nth (Expr.kids e) (1 : Int) (dflt .expr)))))
  (.ite ((Expr.kind e) == 6)
  (T.bind (check_Has (nth (Expr.kids e) (1 : Int) (dflt .expr)) fields) fun r2 =>
 .ret (r2,((nth (Expr.kids e) (0 : Int) (dflt .expr)),(nth (Expr.kids e) (1 : Int) (dflt .expr)))))
  (.ret (false,((nth (Expr.kids e) (0 : Int) (dflt .expr)),(nth (Expr.kids e) (1 : Int) (dflt .expr)))))))
  (.ite ((Expr.kind e) == 6)
  (T.bind (check_Has (nth (Expr.kids e) (1 : Int) (dflt .expr)) fields) fun r3 =>
 .ret (r3,((nth (Expr.kids e) (0 : Int) (dflt .expr)),(nth (Expr.kids e) (1 : Int) (dflt .expr)))))
  (.ret (false,((nth (Expr.kids e) (0 : Int) (dflt .expr)),(nth (Expr.kids e) (1 : Int) (dflt .expr)))))))
  (.ite ((Expr.kind e) == 6)
  (T.bind (check_Has (nth (Expr.kids e) (1 : Int) (dflt .expr)) fields) fun r4 =>
 .ret (r4,((nth (Expr.kids e) (0 : Int) (dflt .expr)),(nth (Expr.kids e) (1 : Int) (dflt .expr)))))
  (.ret (false,((nth (Expr.kids e) (0 : Int) (dflt .expr)),(nth (Expr.kids e) (1 : Int) (dflt .expr)))))) : T ((Bool × AM.Expr × AM.Expr))) fun (x,v,v1) =>
 .ite x
  (.ret (.inr false))
  (.ret (.inl ())))
  (.ret (.inl ())) : T (Unit ⊕ Bool)) <|
 Sum.elim (fun _ =>
 T.bind ((slices_ContainsFunc_sl_Expr self_check_Linear) (Expr.kids e) (fun z0 => (check_Linear_f1 self_check_Linear) z0 fields)) fun r5 =>
 .ret (!r5))
  (fun x1 =>
 .ret x1)
def check_Linear (e : AM.Expr) (fields : (List Str)) : T Bool := T.fix (fun F x => check_Linear_B (fun y0 y1 => F (y0,y1)) x.1 x.2) (e,fields)
def check_Static_R0 (f1 : Form) (x : (List Field)) (x1 : Int) : (Int × (List Str)) → T ((Int × (List Str)) ⊕ ((List Str)))
 | (x2,xs) =>
 .ite (decide (x2 < x1))
  (.obl (idxOk x2 x.length) <|
 .obl (appOk xs.length xs.length (0 : Nat) xs.length xs.length (1 : Nat) (16 : Nat)) <|
 .obl (curOk (xs.length + (1 : Nat)) (0 : Nat) (xs.length + (1 : Nat)) (List.length (xs ++ ([(nth x x2 (dflt tyField)).1] : List Str)))) <|
 .obl ((xs.length + (1 : Nat)) = (List.length (xs ++ ([(nth x x2 (dflt tyField)).1] : List Str)))) <|
 .ret (.inl ((w64 (x2 + 1)),(xs ++ ([(nth x x2 (dflt tyField)).1] : List Str)))))
  (.obl (curOk xs.length (0 : Nat) xs.length xs.length) <|
 .obl (xs.length = xs.length) <|
 .ret (.inr xs))
def check_Static_L0 (f1 : Form) (x : (List Field)) (x1 : Int) (s : (Int × (List Str))) : T ((List Str)) := T.loop (check_Static_R0 f1 x x1) s
def check_Static_R1 (x3 : (List Rule)) (x4 : Int) : (Int × (List Str)) → T ((Int × (List Str)) ⊕ ((List Str) ⊕ (Int × Str × (List Str))))
 | (x5,xs2) =>
 .ite (decide (x5 < x4))
  (.obl (idxOk x5 x3.length) <|
 T.bind (.obl (xs2.length = xs2.length) <|
 T.bind (check_Linear (Expr.mk (Expr.kind (nth x3 x5 (dflt tyRule)).2.2.2.1) ((Expr.num (nth x3 x5 (dflt tyRule)).2.2.2.1).1,((Expr.num (nth x3 x5 (dflt tyRule)).2.2.2.1).2.1,((Expr.num (nth x3 x5 (dflt tyRule)).2.2.2.1).2.2.1,()))) (Expr.name (nth x3 x5 (dflt tyRule)).2.2.2.1) (Expr.kids (nth x3 x5 (dflt tyRule)).2.2.2.1)) (List.drop (0 : Nat) (List.take ((0 : Nat) + xs2.length) xs2))) fun r2 =>
 .ite (!r2)
  (.obl (curOk xs2.length (0 : Nat) xs2.length xs2.length) <|
 .obl (xs2.length = xs2.length) <|
 .ret (true,(xs2,(nth x3 x5 (dflt tyRule)))))
  (.obl (xs2.length = xs2.length) <|
 T.bind (check_Linear (Expr.mk (Expr.kind (nth x3 x5 (dflt tyRule)).2.2.2.2.1) ((Expr.num (nth x3 x5 (dflt tyRule)).2.2.2.2.1).1,((Expr.num (nth x3 x5 (dflt tyRule)).2.2.2.2.1).2.1,((Expr.num (nth x3 x5 (dflt tyRule)).2.2.2.2.1).2.2.1,()))) (Expr.name (nth x3 x5 (dflt tyRule)).2.2.2.2.1) (Expr.kids (nth x3 x5 (dflt tyRule)).2.2.2.2.1)) (List.drop (0 : Nat) (List.take ((0 : Nat) + xs2.length) xs2))) fun r3 =>
 .obl (curOk xs2.length (0 : Nat) xs2.length xs2.length) <|
 .obl (xs2.length = xs2.length) <|
 .ret ((!r3),(xs2,(nth x3 x5 (dflt tyRule))))) : T ((Bool × (List Str) × Rule))) fun (x6,xs3,v) =>
 .ite x6
  (.obl (xs3.length = xs3.length) <|
 .ret (.inr (.inr ((6 : Int),(v.1,xs3)))))
  (.obl (curOk xs3.length (0 : Nat) xs3.length xs3.length) <|
 .obl (xs3.length = xs3.length) <|
 .ret (.inl ((w64 (x5 + 1)),xs3))))
  (.obl (xs2.length = xs2.length) <|
 .ret (.inr (.inl xs2)))
def check_Static_L1 (x3 : (List Rule)) (x4 : Int) (s : (Int × (List Str))) : T ((List Str) ⊕ (Int × Str × (List Str))) := T.loop (check_Static_R1 x3 x4) s
def check_Static (f : Form) : T (Int × Str) :=
 T.bind (sheet_Is f) fun r =>
 .ite (!r)
  (.ret ((2 : Int),([] : Str)))
  (.ite ((decide ((64 : Int) < (Nat.cast f.2.2.2.1.length : Int))) || (decide ((64 : Int) < (Nat.cast f.2.2.2.2.1.length : Int))))
  (.ret ((3 : Int),([] : Str)))
  (T.bind (check_names f) fun r1 =>
 T.bind (check_twice r1) fun (name,ok) =>
 .ite ok
  (.ret ((5 : Int),name))
  (T.bind (check_unguarded f) fun (name1,ok1) =>
 .ite ok1
  (.ret ((5 : Int),name1))
  (.obl (curOk (0 : Nat) (0 : Nat) (0 : Nat) (0 : Nat)) <|
 .obl ((0 : Nat) = (0 : Nat)) <|
 T.bind (check_Static_L0 f f.2.2.2.1 (Nat.cast f.2.2.2.1.length : Int) ((0 : Int),([] : List Str))) fun xs1 =>
 .obl (xs1.length = xs1.length) <|
 T.bind (check_unknown f (List.drop (0 : Nat) (List.take ((0 : Nat) + xs1.length) xs1))) fun (name2,ok2) =>
 .ite ok2
  (.ret ((5 : Int),name2))
  (.obl (curOk xs1.length (0 : Nat) xs1.length xs1.length) <|
 .obl (xs1.length = xs1.length) <|
 T.bind (check_Static_L1 f.2.2.2.2.1 (Nat.cast f.2.2.2.2.1.length : Int) ((0 : Int),xs1)) <|
 Sum.elim (fun xs4 =>
 .ret ((0 : Int),([] : Str)))
  (fun (x7,x8,xs5) =>
 .ret (x7,x8)))))))
def ref5_letter (c : Int) : T Bool :=
 .ret ((decide ((97 : Int) ≤ c)) && (decide (c ≤ (122 : Int))))
def ref5_digit (c : Int) : T Bool :=
 .ret ((decide ((48 : Int) ≤ c)) && (decide (c ≤ (57 : Int))))
def ref5_Name_R0 (s1 : Str) : Int → T (Int ⊕ (Unit ⊕ Bool))
 | i =>
 .ite (decide (i < (Nat.cast s1.length : Int)))
  (T.bind (.obl (idxOk i s1.length) <|
 T.bind (ref5_letter (byteAt s1 i)) fun r1 =>
 .ite (!r1)
  (.obl (idxOk i s1.length) <|
 T.bind (ref5_digit (byteAt s1 i)) fun r2 =>
 .ite (!r2)
  (.obl (idxOk i s1.length) <|
 .ret ((byteAt s1 i) != 95))
  (.ret false))
  (.ret false) : T (Bool)) fun x1 =>
 .ite x1
  (.ret (.inr (.inr false)))
  (.ret (.inl (w64 (i + 1)))))
  (.ret (.inr (.inl ())))
def ref5_Name_L0 (s1 : Str) (s : Int) : T (Unit ⊕ Bool) := T.loop (ref5_Name_R0 s1) s
def ref5_Name (s : Str) : T Bool :=
 T.bind (.ite (decide ((Nat.cast s.length : Int) < (1 : Int)))
  (.ret true)
  (.ite (decide ((24 : Int) < (Nat.cast s.length : Int)))
  (.ret true)
  (.obl (idxOk (0 : Int) s.length) <|
 T.bind (ref5_letter (byteAt s (0 : Int))) fun r =>
 .ret (!r))) : T (Bool)) fun x =>
 .ite x
  (.ret false)
  (T.bind (ref5_Name_L0 s (1 : Int)) <|
 Sum.elim (fun _ =>
 .ret true)
  (fun x2 =>
 .ret x2))
def ref1_Trim_R0 (a1 : (List Int)) : Int → T (Int ⊕ (Int))
 | n =>
 .obl (((decide ((0 : Int) < n)) = true) → (idxOk (w64 (n - 1)) a1.length)) <|
 .ite ((decide ((0 : Int) < n)) && ((nth a1 (w64 (n - 1)) (dflt (.int .u32))) == 0))
  (.ret (.inl (w64 (n - 1))))
  (.ret (.inr n))
def ref1_Trim_L0 (a1 : (List Int)) (s : Int) : T (Int) := T.loop (ref1_Trim_R0 a1) s
def ref1_Trim (a : (List Int)) : T (List Int) :=
 T.bind (ref1_Trim_L0 a (Nat.cast a.length : Int)) fun n1 =>
 .obl (slOk (0 : Int) n1 a.length) <|
 .obl (appOk (0 : Nat) (0 : Nat) (0 : Nat) (0 : Nat) (0 : Nat) (List.length (cutL (e := (.int .u32)) (0 : Int) n1 a)) (4 : Nat)) <|
 .obl (((0 : Nat) + (List.length (cutL (e := (.int .u32)) (0 : Int) n1 a))) = ((0 : Nat) + (List.length (cutL (e := (.int .u32)) (0 : Int) n1 a)))) <|
 .ret (List.drop (0 : Nat) (List.take ((0 : Nat) + ((0 : Nat) + (List.length (cutL (e := (.int .u32)) (0 : Int) n1 a)))) (cutL (e := (.int .u32)) (0 : Int) n1 a)))
def ref1_To_R0 (t1 : (List Int)) : (Int × Int) → T ((Int × Int) ⊕ (Int))
 | (n,i) =>
 .ite (decide ((0 : Int) ≤ i))
  (.obl ((0 : Int) ≤ (32 : Int)) <|
 .obl (idxOk i t1.length) <|
 .ret (.inl ((orI .u64 (shlI .u64 n (32 : Int)) (wu64 (nth t1 i (dflt (.int .u32))))),(w64 (i - 1)))))
  (.ret (.inr n))
def ref1_To_L0 (t1 : (List Int)) (s : (Int × Int)) : T (Int) := T.loop (ref1_To_R0 t1) s
def ref1_To (a : (List Int)) : T (Int × Bool) :=
 T.bind (ref1_Trim a) fun t =>
 .ite (decide ((2 : Int) < (Nat.cast t.length : Int)))
  (.ret ((0 : Int),false))
  (T.bind (ref1_To_L0 t ((0 : Int),(w64 ((Nat.cast t.length : Int) - (1 : Int))))) fun n1 =>
 .ret (n1,true))
def ref1_Of (n : Int) : T (List Int) :=
 .obl ((0 : Int) ≤ (32 : Int)) <|
 T.bind (ref1_Trim ([(wu32 n),(wu32 (shrI .u64 n (32 : Int)))] : List Int)) fun r =>
 .ret r
def ref1_small_R0 (a1 : (List Int)) (by_1 : Int) : (Int × Int × (List Int)) → T ((Int × Int × (List Int)) ⊕ ((Int × (List Int))))
 | (r,i,xs) =>
 .ite (decide ((0 : Int) ≤ i))
  (.obl ((0 : Int) ≤ (32 : Int)) <|
 .obl (idxOk i a1.length) <|
 .obl (by_1 ≠ (0 : Int)) <|
 .obl (idxOk i xs.length) <|
 .obl (eOk xs.length xs.length ((0 : Nat) + (Int.toNat i)) xs.length) <|
 .obl (by_1 ≠ (0 : Int)) <|
 .obl (curOk xs.length (0 : Nat) xs.length (List.length (List.set xs ((0 : Nat) + (Int.toNat i)) (wu32 (wu64 (Int.tdiv (orI .u64 (shlI .u64 r (32 : Int)) (wu64 (nth a1 i (dflt (.int .u32))))) by_1)))))) <|
 .obl (xs.length = (List.length (List.set xs ((0 : Nat) + (Int.toNat i)) (wu32 (wu64 (Int.tdiv (orI .u64 (shlI .u64 r (32 : Int)) (wu64 (nth a1 i (dflt (.int .u32))))) by_1)))))) <|
 .ret (.inl ((Int.tmod (orI .u64 (shlI .u64 r (32 : Int)) (wu64 (nth a1 i (dflt (.int .u32))))) by_1),((w64 (i - 1)),(List.set xs ((0 : Nat) + (Int.toNat i)) (wu32 (wu64 (Int.tdiv (orI .u64 (shlI .u64 r (32 : Int)) (wu64 (nth a1 i (dflt (.int .u32))))) by_1))))))))
  (.obl (curOk xs.length (0 : Nat) xs.length xs.length) <|
 .obl (xs.length = xs.length) <|
 .ret (.inr (r,xs)))
def ref1_small_L0 (a1 : (List Int)) (by_1 : Int) (s : (Int × Int × (List Int))) : T ((Int × (List Int))) := T.loop (ref1_small_R0 a1 by_1) s
def ref1_small (a : (List Int)) (by_ : Int) : T ((List Int) × Int) :=
 .obl (mkOk (Nat.cast a.length : Int) (Nat.cast a.length : Int) (4 : Nat)) <|
 .obl (curOk (Int.toNat (Nat.cast a.length : Int)) (0 : Nat) (Int.toNat (Nat.cast a.length : Int)) (List.length (List.replicate (Int.toNat (Nat.cast a.length : Int)) (0 : Int)))) <|
 .obl ((Int.toNat (Nat.cast a.length : Int)) = (List.length (List.replicate (Int.toNat (Nat.cast a.length : Int)) (0 : Int)))) <|
 T.bind (ref1_small_L0 a by_ ((0 : Int),((w64 ((Nat.cast a.length : Int) - (1 : Int))),(List.replicate (Int.toNat (Nat.cast a.length : Int)) (0 : Int))))) fun (r1,xs1) =>
 .obl (xs1.length = xs1.length) <|
 T.bind (ref1_Trim (List.drop (0 : Nat) (List.take ((0 : Nat) + xs1.length) xs1))) fun r2 =>
 .ret (r2,r1)
def ref1_at (a : (List Int)) (i : Int) : T Int :=
 .ite (decide (i < (Nat.cast a.length : Int)))
  (.obl (idxOk i a.length) <|
 .ret (wu64 (nth a i (dflt (.int .u32)))))
  (.ret (0 : Int))
def ref1_Shift_R0 (t1 : (List Int)) (by_ : Int) : (Int × (List Int)) → T ((Int × (List Int)) ⊕ ((List Int)))
 | (i,xs) =>
 .ite (decide (i < (Nat.cast t1.length : Int)))
  (T.bind (ref1_at t1 i) fun r =>
 T.bind (ref1_at t1 (w64 (i + 1))) fun r1 =>
 .obl ((0 : Int) ≤ (32 : Int)) <|
 .obl ((0 : Int) ≤ by_) <|
 .obl (appOk xs.length xs.length (0 : Nat) xs.length xs.length (1 : Nat) (4 : Nat)) <|
 .obl (curOk (xs.length + (1 : Nat)) (0 : Nat) (xs.length + (1 : Nat)) (List.length (xs ++ ([(wu32 (shrI .u64 (orI .u64 r (shlI .u64 r1 (32 : Int))) by_))] : List Int)))) <|
 .obl ((xs.length + (1 : Nat)) = (List.length (xs ++ ([(wu32 (shrI .u64 (orI .u64 r (shlI .u64 r1 (32 : Int))) by_))] : List Int)))) <|
 .ret (.inl ((w64 (i + 1)),(xs ++ ([(wu32 (shrI .u64 (orI .u64 r (shlI .u64 r1 (32 : Int))) by_))] : List Int)))))
  (.obl (curOk xs.length (0 : Nat) xs.length xs.length) <|
 .obl (xs.length = xs.length) <|
 .ret (.inr xs))
def ref1_Shift_L0 (t1 : (List Int)) (by_ : Int) (s : (Int × (List Int))) : T ((List Int)) := T.loop (ref1_Shift_R0 t1 by_) s
def ref1_Shift_R1 (t2 : (List Int)) (by_1 : Int) : (Int × Int × (List Int)) → T ((Int × Int × (List Int)) ⊕ ((List Int)))
 | (low,i1,xs2) =>
 .ite (decide (i1 < (w64 ((Nat.cast t2.length : Int) + (1 : Int)))))
  (T.bind (ref1_at t2 i1) fun r3 =>
 .obl ((0 : Int) ≤ by_1) <|
 .obl (appOk xs2.length xs2.length (0 : Nat) xs2.length xs2.length (1 : Nat) (4 : Nat)) <|
 .obl ((0 : Int) ≤ (32 : Int)) <|
 .obl (curOk (xs2.length + (1 : Nat)) (0 : Nat) (xs2.length + (1 : Nat)) (List.length (xs2 ++ ([(wu32 (orI .u64 (shlI .u64 r3 by_1) low))] : List Int)))) <|
 .obl ((xs2.length + (1 : Nat)) = (List.length (xs2 ++ ([(wu32 (orI .u64 (shlI .u64 r3 by_1) low))] : List Int)))) <|
 .ret (.inl ((shrI .u64 (shlI .u64 r3 by_1) (32 : Int)),((w64 (i1 + 1)),(xs2 ++ ([(wu32 (orI .u64 (shlI .u64 r3 by_1) low))] : List Int))))))
  (.obl (curOk xs2.length (0 : Nat) xs2.length xs2.length) <|
 .obl (xs2.length = xs2.length) <|
 .ret (.inr xs2))
def ref1_Shift_L1 (t2 : (List Int)) (by_1 : Int) (s : (Int × Int × (List Int))) : T ((List Int)) := T.loop (ref1_Shift_R1 t2 by_1) s
def ref1_Shift (a : (List Int)) (n : Int) : T (List Int) :=
 T.bind (ref1_Trim a) fun t =>
 .ite (decide ((minI (maxI n (-4096 : Int)) (4096 : Int)) < (0 : Int)))
  (.obl ((32 : Int) ≠ (0 : Int)) <|
 .ite (decide ((Nat.cast t.length : Int) ≤ (w64 (Int.tdiv (w64 ((0 : Int) - (minI (maxI n (-4096 : Int)) (4096 : Int)))) (32 : Int)))))
  (.ret ([] : List Int))
  (.obl (slOk (w64 (Int.tdiv (w64 ((0 : Int) - (minI (maxI n (-4096 : Int)) (4096 : Int)))) (32 : Int))) (Nat.cast t.length : Int) t.length) <|
 .obl ((32 : Int) ≠ (0 : Int)) <|
 .obl (curOk (0 : Nat) (0 : Nat) (0 : Nat) (0 : Nat)) <|
 .obl ((0 : Nat) = (0 : Nat)) <|
 T.bind (ref1_Shift_L0 (cutL (e := (.int .u32)) (w64 (Int.tdiv (w64 ((0 : Int) - (minI (maxI n (-4096 : Int)) (4096 : Int)))) (32 : Int))) (Nat.cast t.length : Int) t) (wu64 (Int.tmod (w64 ((0 : Int) - (minI (maxI n (-4096 : Int)) (4096 : Int)))) (32 : Int))) ((0 : Int),([] : List Int))) fun xs1 =>
 .obl (xs1.length = xs1.length) <|
 T.bind (ref1_Trim (List.drop (0 : Nat) (List.take ((0 : Nat) + xs1.length) xs1))) fun r2 =>
 .ret r2))
  (.obl ((32 : Int) ≠ (0 : Int)) <|
 .obl (mkOk (w64 (Int.tdiv (minI (maxI n (-4096 : Int)) (4096 : Int)) (32 : Int))) (w64 (Int.tdiv (minI (maxI n (-4096 : Int)) (4096 : Int)) (32 : Int))) (4 : Nat)) <|
 .obl ((32 : Int) ≠ (0 : Int)) <|
 .obl (curOk (Int.toNat (w64 (Int.tdiv (minI (maxI n (-4096 : Int)) (4096 : Int)) (32 : Int)))) (0 : Nat) (Int.toNat (w64 (Int.tdiv (minI (maxI n (-4096 : Int)) (4096 : Int)) (32 : Int)))) (List.length (List.replicate (Int.toNat (w64 (Int.tdiv (minI (maxI n (-4096 : Int)) (4096 : Int)) (32 : Int)))) (0 : Int)))) <|
 .obl ((Int.toNat (w64 (Int.tdiv (minI (maxI n (-4096 : Int)) (4096 : Int)) (32 : Int)))) = (List.length (List.replicate (Int.toNat (w64 (Int.tdiv (minI (maxI n (-4096 : Int)) (4096 : Int)) (32 : Int)))) (0 : Int)))) <|
 T.bind (ref1_Shift_L1 t (wu64 (Int.tmod (minI (maxI n (-4096 : Int)) (4096 : Int)) (32 : Int))) ((0 : Int),((0 : Int),(List.replicate (Int.toNat (w64 (Int.tdiv (minI (maxI n (-4096 : Int)) (4096 : Int)) (32 : Int)))) (0 : Int))))) fun xs3 =>
 .obl (xs3.length = xs3.length) <|
 T.bind (ref1_Trim (List.drop (0 : Nat) (List.take ((0 : Nat) + xs3.length) xs3))) fun r4 =>
 .ret r4)
def ref1_Add_R0 (a1 : (List Int)) (b1 : (List Int)) : (Int × Int × (List Int)) → T ((Int × Int × (List Int)) ⊕ ((List Int)))
 | (c,i,xs) =>
 .ite (decide (i < (w64 ((maxI (Nat.cast a1.length : Int) (Nat.cast b1.length : Int)) + 1))))
  (T.bind (ref1_at a1 i) fun r =>
 T.bind (ref1_at b1 i) fun r1 =>
 .obl (appOk xs.length xs.length (0 : Nat) xs.length xs.length (1 : Nat) (4 : Nat)) <|
 .obl ((0 : Int) ≤ (32 : Int)) <|
 .obl (curOk (xs.length + (1 : Nat)) (0 : Nat) (xs.length + (1 : Nat)) (List.length (xs ++ ([(wu32 (wu64 ((wu64 (c + r)) + r1)))] : List Int)))) <|
 .obl ((xs.length + (1 : Nat)) = (List.length (xs ++ ([(wu32 (wu64 ((wu64 (c + r)) + r1)))] : List Int)))) <|
 .ret (.inl ((shrI .u64 (wu64 ((wu64 (c + r)) + r1)) (32 : Int)),((w64 (i + 1)),(xs ++ ([(wu32 (wu64 ((wu64 (c + r)) + r1)))] : List Int))))))
  (.obl (curOk xs.length (0 : Nat) xs.length xs.length) <|
 .obl (xs.length = xs.length) <|
 .ret (.inr xs))
def ref1_Add_L0 (a1 : (List Int)) (b1 : (List Int)) (s : (Int × Int × (List Int))) : T ((List Int)) := T.loop (ref1_Add_R0 a1 b1) s
def ref1_Add (a : (List Int)) (b : (List Int)) : T (List Int) :=
 .obl (curOk (0 : Nat) (0 : Nat) (0 : Nat) (0 : Nat)) <|
 .obl ((0 : Nat) = (0 : Nat)) <|
 T.bind (ref1_Add_L0 a b ((0 : Int),((0 : Int),([] : List Int)))) fun xs1 =>
 .obl (xs1.length = xs1.length) <|
 T.bind (ref1_Trim (List.drop (0 : Nat) (List.take ((0 : Nat) + xs1.length) xs1))) fun r2 =>
 .ret r2
def ref1_Cmp_R0 (x1 : (List Int)) (y1 : (List Int)) : Int → T (Int ⊕ (Unit ⊕ Int))
 | i =>
 .ite (decide ((0 : Int) ≤ i))
  (.obl (idxOk i x1.length) <|
 .obl (idxOk i y1.length) <|
 .ite (decide ((nth x1 i (dflt (.int .u32))) < (nth y1 i (dflt (.int .u32)))))
  (.ret (.inr (.inr (-1 : Int))))
  (.obl (idxOk i x1.length) <|
 .obl (idxOk i y1.length) <|
 .ite (decide ((nth y1 i (dflt (.int .u32))) < (nth x1 i (dflt (.int .u32)))))
  (.ret (.inr (.inr (1 : Int))))
  (.ret (.inl (w64 (i - 1))))))
  (.ret (.inr (.inl ())))
def ref1_Cmp_L0 (x1 : (List Int)) (y1 : (List Int)) (s : Int) : T (Unit ⊕ Int) := T.loop (ref1_Cmp_R0 x1 y1) s
def ref1_Cmp (a : (List Int)) (b : (List Int)) : T Int :=
 T.bind (ref1_Trim a) fun x =>
 T.bind (ref1_Trim b) fun y =>
 .ite ((Nat.cast x.length : Int) != (Nat.cast y.length : Int))
  (.ite (decide ((Nat.cast x.length : Int) < (Nat.cast y.length : Int)))
  (.ret (-1 : Int))
  (.ret (1 : Int)))
  (T.bind (ref1_Cmp_L0 x y (w64 ((Nat.cast x.length : Int) - (1 : Int)))) <|
 Sum.elim (fun _ =>
 .ret (0 : Int))
  (fun x2 =>
 .ret x2))
def ref1_Sub_R0 (a1 : (List Int)) (b1 : (List Int)) : (Int × Int × (List Int)) → T ((Int × Int × (List Int)) ⊕ ((List Int)))
 | (c,i,xs) =>
 .ite (decide (i < (Nat.cast a1.length : Int)))
  (T.bind (ref1_at a1 i) fun x =>
 T.bind (ref1_at b1 i) fun r1 =>
 .obl (appOk xs.length xs.length (0 : Nat) xs.length xs.length (1 : Nat) (4 : Nat)) <|
 .obl (curOk (xs.length + (1 : Nat)) (0 : Nat) (xs.length + (1 : Nat)) (List.length (xs ++ ([(wu32 (wu64 ((bif (decide (x < (wu64 (r1 + c)))) then (wu64 (x + 4294967296)) else x) - (wu64 (r1 + c)))))] : List Int)))) <|
 .obl ((xs.length + (1 : Nat)) = (List.length (xs ++ ([(wu32 (wu64 ((bif (decide (x < (wu64 (r1 + c)))) then (wu64 (x + 4294967296)) else x) - (wu64 (r1 + c)))))] : List Int)))) <|
 .ret (.inl ((bif (decide (x < (wu64 (r1 + c)))) then (1 : Int) else (0 : Int)),((w64 (i + 1)),(xs ++ ([(wu32 (wu64 ((bif (decide (x < (wu64 (r1 + c)))) then (wu64 (x + 4294967296)) else x) - (wu64 (r1 + c)))))] : List Int))))))
  (.obl (curOk xs.length (0 : Nat) xs.length xs.length) <|
 .obl (xs.length = xs.length) <|
 .ret (.inr xs))
def ref1_Sub_L0 (a1 : (List Int)) (b1 : (List Int)) (s : (Int × Int × (List Int))) : T ((List Int)) := T.loop (ref1_Sub_R0 a1 b1) s
def ref1_Sub (a : (List Int)) (b : (List Int)) : T ((List Int) × Bool) :=
 T.bind (ref1_Cmp a b) fun r =>
 .ite (decide (r < (0 : Int)))
  (.ret (([] : List Int),false))
  (.obl (curOk (0 : Nat) (0 : Nat) (0 : Nat) (0 : Nat)) <|
 .obl ((0 : Nat) = (0 : Nat)) <|
 T.bind (ref1_Sub_L0 a b ((0 : Int),((0 : Int),([] : List Int)))) fun xs1 =>
 .obl (xs1.length = xs1.length) <|
 T.bind (ref1_Trim (List.drop (0 : Nat) (List.take ((0 : Nat) + xs1.length) xs1))) fun r2 =>
 .ret (r2,true))
def ref1_DivMod_R0 (a1 : (List Int)) (b1 : (List Int)) : ((List Int) × Int × (List Int)) → T (((List Int) × Int × (List Int)) ⊕ (((List Int) × (List Int))))
 | (r5,i,xs) =>
 .ite (decide ((0 : Int) ≤ i))
  (T.bind (ref1_Shift r5 (1 : Int)) fun r6 =>
 T.bind (.obl ((32 : Int) ≠ (0 : Int)) <|
 .obl (idxOk (w64 (Int.tdiv i (32 : Int))) a1.length) <|
 .obl ((32 : Int) ≠ (0 : Int)) <|
 .obl ((0 : Int) ≤ (wu64 (Int.tmod i (32 : Int)))) <|
 .ite ((andI .u32 (shrI .u32 (nth a1 (w64 (Int.tdiv i (32 : Int))) (dflt (.int .u32))) (wu64 (Int.tmod i (32 : Int)))) (1 : Int)) == 1)
  (T.bind (ref1_Add r6 ([(1 : Int)] : List Int)) fun r7 =>
 .obl (curOk xs.length (0 : Nat) xs.length xs.length) <|
 .obl (xs.length = xs.length) <|
 .ret (r7,xs))
  (.obl (curOk xs.length (0 : Nat) xs.length xs.length) <|
 .obl (xs.length = xs.length) <|
 .ret (r6,xs)) : T (((List Int) × (List Int)))) fun (r8,xs1) =>
 T.bind (ref1_Cmp r8 b1) fun r9 =>
 .ite (decide ((0 : Int) ≤ r9))
  (T.bind (ref1_Sub r8 b1) fun (r10,r11) =>
 .obl ((32 : Int) ≠ (0 : Int)) <|
 .obl ((32 : Int) ≠ (0 : Int)) <|
 .obl (idxOk (w64 (Int.tdiv i (32 : Int))) xs1.length) <|
 .obl (eOk xs1.length xs1.length ((0 : Nat) + (Int.toNat (w64 (Int.tdiv i (32 : Int))))) xs1.length) <|
 .obl ((32 : Int) ≠ (0 : Int)) <|
 .obl ((0 : Int) ≤ (wu64 (Int.tmod i (32 : Int)))) <|
 .obl (idxOk (w64 (Int.tdiv i (32 : Int))) xs1.length) <|
 .obl (eOk xs1.length xs1.length ((0 : Nat) + (Int.toNat (w64 (Int.tdiv i (32 : Int))))) xs1.length) <|
 .obl (curOk xs1.length (0 : Nat) xs1.length (List.length (List.set xs1 ((0 : Nat) + (Int.toNat (w64 (Int.tdiv i (32 : Int))))) (orI .u32 (nthN xs1 ((0 : Nat) + (Int.toNat (w64 (Int.tdiv i (32 : Int))))) (dflt (.int .u32))) (shlI .u32 (1 : Int) (wu64 (Int.tmod i (32 : Int)))))))) <|
 .obl (xs1.length = (List.length (List.set xs1 ((0 : Nat) + (Int.toNat (w64 (Int.tdiv i (32 : Int))))) (orI .u32 (nthN xs1 ((0 : Nat) + (Int.toNat (w64 (Int.tdiv i (32 : Int))))) (dflt (.int .u32))) (shlI .u32 (1 : Int) (wu64 (Int.tmod i (32 : Int)))))))) <|
 .ret (.inl (r10,((w64 (i - 1)),(List.set xs1 ((0 : Nat) + (Int.toNat (w64 (Int.tdiv i (32 : Int))))) (orI .u32 (nthN xs1 ((0 : Nat) + (Int.toNat (w64 (Int.tdiv i (32 : Int))))) (dflt (.int .u32))) (shlI .u32 (1 : Int) (wu64 (Int.tmod i (32 : Int))))))))))
  (.obl (curOk xs1.length (0 : Nat) xs1.length xs1.length) <|
 .obl (xs1.length = xs1.length) <|
 .ret (.inl (r8,((w64 (i - 1)),xs1)))))
  (.obl (curOk xs.length (0 : Nat) xs.length xs.length) <|
 .obl (xs.length = xs.length) <|
 .ret (.inr (r5,xs)))
def ref1_DivMod_L0 (a1 : (List Int)) (b1 : (List Int)) (s : ((List Int) × Int × (List Int))) : T (((List Int) × (List Int))) := T.loop (ref1_DivMod_R0 a1 b1) s
def ref1_DivMod (a : (List Int)) (b : (List Int)) : T ((List Int) × (List Int) × Bool) :=
 T.bind (ref1_Trim b) fun r =>
 .ite ((Nat.cast r.length : Int) == (0 : Int))
  (.ret (([] : List Int),(([] : List Int),false)))
  (T.bind (ref1_To a) fun (x,one_) =>
 T.bind (ref1_To b) fun (y,two_) =>
 .ite (one_ && two_)
  (.obl (y ≠ (0 : Int)) <|
 T.bind (ref1_Of (wu64 (Int.tdiv x y))) fun r1 =>
 .obl (y ≠ (0 : Int)) <|
 T.bind (ref1_Of (Int.tmod x y)) fun r2 =>
 .ret (r1,(r2,true)))
  (.ite (two_ && (decide (y < (4294967296 : Int))))
  (T.bind (ref1_small a y) fun (q,r3) =>
 T.bind (ref1_Of r3) fun r4 =>
 .ret (q,(r4,true)))
  (.obl (mkOk (Nat.cast a.length : Int) (Nat.cast a.length : Int) (4 : Nat)) <|
 .obl (curOk (Int.toNat (Nat.cast a.length : Int)) (0 : Nat) (Int.toNat (Nat.cast a.length : Int)) (List.length (List.replicate (Int.toNat (Nat.cast a.length : Int)) (0 : Int)))) <|
 .obl ((Int.toNat (Nat.cast a.length : Int)) = (List.length (List.replicate (Int.toNat (Nat.cast a.length : Int)) (0 : Int)))) <|
 T.bind (ref1_DivMod_L0 a b (([] : List Int),((w64 ((w64 ((32 : Int) * (Nat.cast a.length : Int))) - 1)),(List.replicate (Int.toNat (Nat.cast a.length : Int)) (0 : Int))))) fun (r12,xs2) =>
 .obl (xs2.length = xs2.length) <|
 T.bind (ref1_Trim (List.drop (0 : Nat) (List.take ((0 : Nat) + xs2.length) xs2))) fun r13 =>
 T.bind (ref1_Trim r12) fun r14 =>
 .ret (r13,(r14,true)))))
def ref1_Gcd_R0  : ((List Int) × (List Int)) → T (((List Int) × (List Int)) ⊕ ((List Int)))
 | (x1,y1) =>
 .ite (decide ((0 : Int) < (Nat.cast y1.length : Int)))
  (T.bind (ref1_DivMod x1 y1) fun (r,r1,r2) =>
 .ret (.inl (y1,r1)))
  (.ret (.inr x1))
def ref1_Gcd_L0  (s : ((List Int) × (List Int))) : T ((List Int)) := T.loop (ref1_Gcd_R0 ) s
def ref1_Gcd (a : (List Int)) (b : (List Int)) : T (List Int) :=
 T.bind (ref1_Trim a) fun x =>
 T.bind (ref1_Trim b) fun y =>
 T.bind (ref1_Gcd_L0  (x,y)) fun x2 =>
 .ret x2
def ref2_Norm (a : Rat) : T Rat :=
 T.bind (ref1_Trim a.2.1) fun n =>
 T.bind (ref1_Trim a.2.2.1) fun d =>
 .ite (((Nat.cast d.length : Int) == (0 : Int)) || ((Nat.cast n.length : Int) == (0 : Int)))
  (.ret (false,(([] : List Int),(([(1 : Int)] : List Int),()))))
  (T.bind (ref1_Gcd n d) fun g =>
 T.bind (ref1_DivMod n g) fun (n1,r,r1) =>
 T.bind (ref1_DivMod d g) fun (d1,r2,r3) =>
 .ret (a.1,(n1,(d1,()))))
def ref2_limbs_R0 (a1 : (List Int)) (b1 : (List Int)) : Int → T (Int ⊕ (Unit ⊕ Bool))
 | i =>
 .ite (decide (i < (Nat.cast a1.length : Int)))
  (.obl (idxOk i a1.length) <|
 .obl (idxOk i b1.length) <|
 .ite ((nth a1 i (dflt (.int .u32))) != (nth b1 i (dflt (.int .u32))))
  (.ret (.inr (.inr false)))
  (.ret (.inl (w64 (i + 1)))))
  (.ret (.inr (.inl ())))
def ref2_limbs_L0 (a1 : (List Int)) (b1 : (List Int)) (s : Int) : T (Unit ⊕ Bool) := T.loop (ref2_limbs_R0 a1 b1) s
def ref2_limbs (a : (List Int)) (b : (List Int)) : T Bool :=
 .ite ((Nat.cast a.length : Int) != (Nat.cast b.length : Int))
  (.ret false)
  (T.bind (ref2_limbs_L0 a b (0 : Int)) <|
 Sum.elim (fun _ =>
 .ret true)
  (fun x =>
 .ret x))
def ref2_Is (a : Rat) : T Bool :=
 T.bind (ref2_Norm a) fun r =>
 .ite (a.1 == r.1)
  (T.bind (ref2_limbs a.2.1 r.2.1) fun r1 =>
 .ite r1
  (T.bind (ref2_limbs a.2.2.1 r.2.2.1) fun r2 =>
 .ret r2)
  (.ret false))
  (.ret false)
def ref2_Large (a : Rat) : T Bool :=
 T.bind (ref2_Norm a) fun r =>
 .ret ((decide ((16 : Int) < (Nat.cast r.2.1.length : Int))) || (decide ((16 : Int) < (Nat.cast r.2.2.1.length : Int))))
def ref2_Good (a : Rat) : T Bool :=
 T.bind (ref2_Is a) fun r =>
 .ite r
  (T.bind (ref2_Large a) fun r1 =>
 .ret (!r1))
  (.ret false)
def ref6_guard (s : Str) : T Bool :=
 .ite (strEq s ([] : Str))
  (.ret true)
  (T.bind (ref5_Name s) fun r =>
 .ret r)
def ref1_Mul_R1 (a2 : (List Int)) (b2 : (List Int)) (i1 : Int) : (Int × Int × (List Int)) → T ((Int × Int × (List Int)) ⊕ ((List Int)))
 | (c,k,xs1) =>
 .ite ((decide (k < (Nat.cast b2.length : Int))) || (decide ((0 : Int) < c)))
  (.ite (decide ((Nat.cast xs1.length : Int) ≤ (w64 (i1 + k))))
  (.obl (curOk xs1.length (0 : Nat) xs1.length xs1.length) <|
 .obl (xs1.length = xs1.length) <|
 .ret (.inr xs1))
  (.obl (idxOk i1 a2.length) <|
 T.bind (ref1_at b2 k) fun r =>
 .obl (idxOk (w64 (i1 + k)) xs1.length) <|
 .obl (eOk xs1.length xs1.length ((0 : Nat) + (Int.toNat (w64 (i1 + k)))) xs1.length) <|
 .obl (idxOk (w64 (i1 + k)) xs1.length) <|
 .obl (eOk xs1.length xs1.length ((0 : Nat) + (Int.toNat (w64 (i1 + k)))) xs1.length) <|
 .obl ((0 : Int) ≤ (32 : Int)) <|
 .obl (curOk xs1.length (0 : Nat) xs1.length (List.length (List.set xs1 ((0 : Nat) + (Int.toNat (w64 (i1 + k)))) (wu32 (wu64 ((wu64 (c + (wu64 ((wu64 (nth a2 i1 (dflt (.int .u32)))) * r)))) + (wu64 (nthN xs1 ((0 : Nat) + (Int.toNat (w64 (i1 + k)))) (dflt (.int .u32)))))))))) <|
 .obl (xs1.length = (List.length (List.set xs1 ((0 : Nat) + (Int.toNat (w64 (i1 + k)))) (wu32 (wu64 ((wu64 (c + (wu64 ((wu64 (nth a2 i1 (dflt (.int .u32)))) * r)))) + (wu64 (nthN xs1 ((0 : Nat) + (Int.toNat (w64 (i1 + k)))) (dflt (.int .u32)))))))))) <|
 .ret (.inl ((shrI .u64 (wu64 ((wu64 (c + (wu64 ((wu64 (nth a2 i1 (dflt (.int .u32)))) * r)))) + (wu64 (nthN xs1 ((0 : Nat) + (Int.toNat (w64 (i1 + k)))) (dflt (.int .u32)))))) (32 : Int)),((w64 (k + 1)),(List.set xs1 ((0 : Nat) + (Int.toNat (w64 (i1 + k)))) (wu32 (wu64 ((wu64 (c + (wu64 ((wu64 (nth a2 i1 (dflt (.int .u32)))) * r)))) + (wu64 (nthN xs1 ((0 : Nat) + (Int.toNat (w64 (i1 + k)))) (dflt (.int .u32)))))))))))))
  (.obl (curOk xs1.length (0 : Nat) xs1.length xs1.length) <|
 .obl (xs1.length = xs1.length) <|
 .ret (.inr xs1))
def ref1_Mul_L1 (a2 : (List Int)) (b2 : (List Int)) (i1 : Int) (s : (Int × Int × (List Int))) : T ((List Int)) := T.loop (ref1_Mul_R1 a2 b2 i1) s
def ref1_Mul_R0 (a1 : (List Int)) (b1 : (List Int)) : (Int × (List Int)) → T ((Int × (List Int)) ⊕ ((List Int)))
 | (i,xs) =>
 .ite (decide (i < (Nat.cast a1.length : Int)))
  (.obl (curOk xs.length (0 : Nat) xs.length xs.length) <|
 .obl (xs.length = xs.length) <|
 T.bind (ref1_Mul_L1 a1 b1 i ((0 : Int),((0 : Int),xs))) fun xs2 =>
 .obl (curOk xs2.length (0 : Nat) xs2.length xs2.length) <|
 .obl (xs2.length = xs2.length) <|
 .ret (.inl ((w64 (i + 1)),xs2)))
  (.obl (curOk xs.length (0 : Nat) xs.length xs.length) <|
 .obl (xs.length = xs.length) <|
 .ret (.inr xs))
def ref1_Mul_L0 (a1 : (List Int)) (b1 : (List Int)) (s : (Int × (List Int))) : T ((List Int)) := T.loop (ref1_Mul_R0 a1 b1) s
def ref1_Mul (a : (List Int)) (b : (List Int)) : T (List Int) :=
 .obl (mkOk (w64 ((Nat.cast a.length : Int) + (Nat.cast b.length : Int))) (w64 ((Nat.cast a.length : Int) + (Nat.cast b.length : Int))) (4 : Nat)) <|
 .obl (curOk (Int.toNat (w64 ((Nat.cast a.length : Int) + (Nat.cast b.length : Int)))) (0 : Nat) (Int.toNat (w64 ((Nat.cast a.length : Int) + (Nat.cast b.length : Int)))) (List.length (List.replicate (Int.toNat (w64 ((Nat.cast a.length : Int) + (Nat.cast b.length : Int)))) (0 : Int)))) <|
 .obl ((Int.toNat (w64 ((Nat.cast a.length : Int) + (Nat.cast b.length : Int)))) = (List.length (List.replicate (Int.toNat (w64 ((Nat.cast a.length : Int) + (Nat.cast b.length : Int)))) (0 : Int)))) <|
 T.bind (ref1_Mul_L0 a b ((0 : Int),(List.replicate (Int.toNat (w64 ((Nat.cast a.length : Int) + (Nat.cast b.length : Int)))) (0 : Int)))) fun xs3 =>
 .obl (xs3.length = xs3.length) <|
 T.bind (ref1_Trim (List.drop (0 : Nat) (List.take ((0 : Nat) + xs3.length) xs3))) fun r1 =>
 .ret r1
def ref1_Print_R0  : ((List Int) × Str) → T (((List Int) × Str) ⊕ (Str))
 | (t1,s) =>
 .ite (decide ((0 : Int) < (Nat.cast t1.length : Int)))
  (T.bind (ref1_small t1 (10 : Int)) fun (t2,r) =>
 .obl (((List.length (bytesStr ([(wu8 (wu64 ((48 : Int) + r)))] : List Int))) + s.length) ≤ (4611686018427387904 : Nat)) <|
 .ret (.inl (t2,(cat (bytesStr ([(wu8 (wu64 ((48 : Int) + r)))] : List Int)) s))))
  (.ret (.inr s))
def ref1_Print_L0  (s : ((List Int) × Str)) : T (Str) := T.loop (ref1_Print_R0 ) s
def ref1_Print (a : (List Int)) : T Str :=
 T.bind (ref1_Trim a) fun t =>
 .ite ((Nat.cast t.length : Int) == (0 : Int))
  (.ret ([48] : Str))
  (T.bind (ref1_Print_L0  (t,([] : Str))) fun s1 =>
 .ret s1)
def ref3_digits_R0 (least1 : Int) : Str → T (Str ⊕ (Str))
 | s1 =>
 .ite (decide ((Nat.cast s1.length : Int) < least1))
  (.obl (((List.length ([48] : Str)) + s1.length) ≤ (4611686018427387904 : Nat)) <|
 .ret (.inl (cat ([48] : Str) s1)))
  (.ret (.inr s1))
def ref3_digits_L0 (least1 : Int) (s : Str) : T (Str) := T.loop (ref3_digits_R0 least1) s
def ref3_digits (n : (List Int)) (least : Int) : T Str :=
 T.bind (ref1_Print n) fun s =>
 T.bind (ref3_digits_L0 least s) fun s2 =>
 .ret s2
def ref3_sign (neg : Bool) : T Str :=
 .ite neg
  (.ret ([45] : Str))
  (.ret ([] : Str))
def ref3_point (neg : Bool) (n : (List Int)) (scale : Int) : T Str :=
 T.bind (ref3_digits n (w64 (scale + 1))) fun s =>
 .obl (((decide ((0 : Int) < scale)) = true) → ((slOk (0 : Int) (w64 ((Nat.cast s.length : Int) - scale)) s.length) ∧ ((((List.length (cutS (0 : Int) (w64 ((Nat.cast s.length : Int) - scale)) s)) + (List.length ([46] : Str))) ≤ (4611686018427387904 : Nat)) ∧ ((slOk (w64 ((Nat.cast s.length : Int) - scale)) (Nat.cast s.length : Int) s.length) ∧ (((List.length (cat (cutS (0 : Int) (w64 ((Nat.cast s.length : Int) - scale)) s) ([46] : Str))) + (List.length (cutS (w64 ((Nat.cast s.length : Int) - scale)) (Nat.cast s.length : Int) s))) ≤ (4611686018427387904 : Nat)))))) <|
 .ite neg
  (T.bind (ref3_sign (decide ((0 : Int) < (Nat.cast n.length : Int)))) fun r =>
 .obl ((r.length + (List.length (bif (decide ((0 : Int) < scale)) then (cat (cat (cutS (0 : Int) (w64 ((Nat.cast s.length : Int) - scale)) s) ([46] : Str)) (cutS (w64 ((Nat.cast s.length : Int) - scale)) (Nat.cast s.length : Int) s)) else s))) ≤ (4611686018427387904 : Nat)) <|
 .ret (cat r (bif (decide ((0 : Int) < scale)) then (cat (cat (cutS (0 : Int) (w64 ((Nat.cast s.length : Int) - scale)) s) ([46] : Str)) (cutS (w64 ((Nat.cast s.length : Int) - scale)) (Nat.cast s.length : Int) s)) else s)))
  (T.bind (ref3_sign false) fun r1 =>
 .obl ((r1.length + (List.length (bif (decide ((0 : Int) < scale)) then (cat (cat (cutS (0 : Int) (w64 ((Nat.cast s.length : Int) - scale)) s) ([46] : Str)) (cutS (w64 ((Nat.cast s.length : Int) - scale)) (Nat.cast s.length : Int) s)) else s))) ≤ (4611686018427387904 : Nat)) <|
 .ret (cat r1 (bif (decide ((0 : Int) < scale)) then (cat (cat (cutS (0 : Int) (w64 ((Nat.cast s.length : Int) - scale)) s) ([46] : Str)) (cutS (w64 ((Nat.cast s.length : Int) - scale)) (Nat.cast s.length : Int) s)) else s)))
def ref3_Exact_R0  : ((List Int) × Int × Rat) → T (((List Int) × Int × Rat) ⊕ (Rat ⊕ (Str × Bool × Rat)))
 | (t,k,v) =>
 .ite (decide (k ≤ (60 : Int)))
  (T.bind (ref1_Mul v.2.1 t) fun r1 =>
 T.bind (ref1_DivMod r1 v.2.2.1) fun (q,r2,r3) =>
 .ite ((Nat.cast r2.length : Int) == (0 : Int))
  (T.bind (ref3_point v.1 q k) fun r4 =>
 .ret (.inr (.inr (r4,(true,v)))))
  (T.bind (ref1_Mul t ([(10 : Int)] : List Int)) fun t1 =>
 .ret (.inl (t1,((w64 (k + 1)),v)))))
  (.ret (.inr (.inl v)))
def ref3_Exact_L0  (s : ((List Int) × Int × Rat)) : T (Rat ⊕ (Str × Bool × Rat)) := T.loop (ref3_Exact_R0 ) s
def ref3_Exact (a : Rat) : T (Str × Bool) :=
 T.bind (ref2_Norm a) fun r =>
 T.bind (ref3_Exact_L0  (([(1 : Int)] : List Int),((0 : Int),r))) <|
 Sum.elim (fun v1 =>
 .ret (([] : Str),false))
  (fun (x,x1,v2) =>
 .ret (x,x1))
def ref5_blank (a : Rat) : T Bool :=
 .ite (!a.1)
  (.ite ((Nat.cast a.2.1.length : Int) == (0 : Int))
  (.ite ((Nat.cast a.2.2.1.length : Int) == (0 : Int))
  (.ret true)
  (T.bind (ref2_Is a) fun r =>
 .ret r))
  (.ret false))
  (.ret false)
def ref5_one_R0 (self_ref5_one : AM.Expr → Int → T Bool) (deep1 : Int) (e1 : AM.Expr) (kids1 : Int) : Int → T (Int ⊕ (Unit ⊕ Bool))
 | i =>
 .ite (decide (i < kids1))
  (.obl (idxOk i (List.length (Expr.kids e1))) <|
 T.bind (self_ref5_one (nth (Expr.kids e1) i (dflt .expr)) (w64 (deep1 + 1))) fun r5 =>
 .ite (!r5)
  (.ret (.inr (.inr false)))
  (.ret (.inl (w64 (i + 1)))))
  (.ret (.inr (.inl ())))
def ref5_one_L0 (self_ref5_one : AM.Expr → Int → T Bool) (deep1 : Int) (e1 : AM.Expr) (kids1 : Int) (s : Int) : T (Unit ⊕ Bool) := T.loop (ref5_one_R0 self_ref5_one deep1 e1 kids1) s
def ref5_one_B (self_ref5_one : AM.Expr → Int → T Bool) (e : AM.Expr) (deep : Int) : T Bool :=
 .ite (decide ((32 : Int) < deep))
  (.ret false)
  (T.bind (.ite ((Expr.kind e) == 1)
  (T.bind (ref3_Exact (Expr.num e)) fun (r,ok) =>
 .ite ((Nat.cast (List.length (Expr.kids e)) : Int) == (0 : Int))
  (.ite (strEq (Expr.name e) ([] : Str))
  (T.bind (ref2_Good (Expr.num e)) fun r1 =>
 .ite r1
  (.ite (!(Expr.num e).1)
  (.ret (.inr ok))
  (.ret (.inr false)))
  (.ret (.inr false)))
  (.ret (.inr false)))
  (.ret (.inr false)))
  (.ite ((Expr.kind e) == 2)
  (.ite ((Nat.cast (List.length (Expr.kids e)) : Int) == (0 : Int))
  (T.bind (ref5_Name (Expr.name e)) fun r2 =>
 .ite r2
  (T.bind (ref5_blank (Expr.num e)) fun r3 =>
 .ret (.inr r3))
  (.ret (.inr false)))
  (.ret (.inr false)))
  (.ite ((Expr.kind e) == 7)
  (.ret (.inl (1 : Int)))
  (.ite ((Expr.kind e) == 3)
  (.ret (.inl (2 : Int)))
  (.ite ((Expr.kind e) == 4)
  (.ret (.inl (2 : Int)))
  (.ite ((Expr.kind e) == 5)
  (.ret (.inl (2 : Int)))
  (.ite ((Expr.kind e) == 6)
  (.ret (.inl (2 : Int)))
  (.ret (.inr false)))))))) : T (Int ⊕ Bool)) <|
 Sum.elim (fun kids =>
 T.bind (.ite ((Nat.cast (List.length (Expr.kids e)) : Int) != kids)
  (.ret true)
  (.ite (!(strEq (Expr.name e) ([] : Str)))
  (.ret true)
  (T.bind (ref5_blank (Expr.num e)) fun r4 =>
 .ret (!r4))) : T (Bool)) fun x1 =>
 .ite x1
  (.ret false)
  (T.bind (ref5_one_L0 self_ref5_one deep e kids (0 : Int)) <|
 Sum.elim (fun _ =>
 .ret true)
  (fun x2 =>
 .ret x2)))
  (fun x =>
 .ret x))
def ref5_one (e : AM.Expr) (deep : Int) : T Bool := T.fix (fun F x => ref5_one_B (fun y0 y1 => F (y0,y1)) x.1 x.2) (e,deep)
def ref5_Nodes_R0 (self_ref5_Nodes : AM.Expr → T Int) (e1 : AM.Expr) : (Int × Int) → T ((Int × Int) ⊕ (Int))
 | (n,i) =>
 .ite (decide (i < (Nat.cast (List.length (Expr.kids e1)) : Int)))
  (.obl (idxOk i (List.length (Expr.kids e1))) <|
 T.bind (self_ref5_Nodes (nth (Expr.kids e1) i (dflt .expr))) fun r =>
 .ret (.inl ((w64 (n + r)),(w64 (i + 1)))))
  (.ret (.inr n))
def ref5_Nodes_L0 (self_ref5_Nodes : AM.Expr → T Int) (e1 : AM.Expr) (s : (Int × Int)) : T (Int) := T.loop (ref5_Nodes_R0 self_ref5_Nodes e1) s
def ref5_Nodes_B (self_ref5_Nodes : AM.Expr → T Int) (e : AM.Expr) : T Int :=
 T.bind (ref5_Nodes_L0 self_ref5_Nodes e ((1 : Int),(0 : Int))) fun n1 =>
 .ret n1
def ref5_Nodes (e : AM.Expr) : T Int := T.fix (fun F x => ref5_Nodes_B (fun y0 => F (y0)) x) e
def ref5_Is (e : AM.Expr) : T Bool :=
 T.bind (ref5_one e (1 : Int)) fun r =>
 .ite r
  (T.bind (ref5_Nodes e) fun r1 =>
 .ret (decide (r1 ≤ (256 : Int))))
  (.ret false)
def ref6_pages_R0 (f1 : Form) : (Int × Int) → T ((Int × Int) ⊕ (Unit ⊕ Bool))
 | (at_,i) =>
 .ite (decide (i < (Nat.cast f1.2.2.2.1.length : Int)))
  (.obl (idxOk i f1.2.2.2.1.length) <|
 T.bind (.ite (decide ((nth f1.2.2.2.1 i (dflt tyField)).2.1 < at_))
  (.ret (true,(nth f1.2.2.2.1 i (dflt tyField))))
  (.ite (decide ((Nat.cast f1.2.2.1.length : Int) ≤ (nth f1.2.2.2.1 i (dflt tyField)).2.1))
  (.ret (true,(nth f1.2.2.2.1 i (dflt tyField))))
  (T.bind (ref5_Name (nth f1.2.2.2.1 i (dflt tyField)).1) fun r =>
 .ite (!r)
  (.ret (true,(nth f1.2.2.2.1 i (dflt tyField))))
  (.ite (decide ((nth f1.2.2.2.1 i (dflt tyField)).2.2.2.1 < (0 : Int)))
  (.ret (true,(nth f1.2.2.2.1 i (dflt tyField))))
  (.ret ((decide ((9 : Int) < (nth f1.2.2.2.1 i (dflt tyField)).2.2.2.1)),(nth f1.2.2.2.1 i (dflt tyField))))))) : T ((Bool × Field))) fun (x,v) =>
 .ite x
  (.ret (.inr (.inr false)))
  (.ret (.inl (v.2.1,(w64 (i + 1))))))
  (.ret (.inr (.inl ())))
def ref6_pages_L0 (f1 : Form) (s : (Int × Int)) : T (Unit ⊕ Bool) := T.loop (ref6_pages_R0 f1) s
def ref6_pages_R1 (f2 : Form) : (Int × Int) → T ((Int × Int) ⊕ (Unit ⊕ Bool))
 | (at_1,i1) =>
 .ite (decide (i1 < (Nat.cast f2.2.2.2.2.2.1.length : Int)))
  (.obl (idxOk i1 f2.2.2.2.2.2.1.length) <|
 T.bind (.ite (decide ((nth f2.2.2.2.2.2.1 i1 (dflt tyCheck)).2.1 < at_1))
  (.ret (true,(nth f2.2.2.2.2.2.1 i1 (dflt tyCheck))))
  (.ite (decide ((Nat.cast f2.2.2.1.length : Int) ≤ (nth f2.2.2.2.2.2.1 i1 (dflt tyCheck)).2.1))
  (.ret (true,(nth f2.2.2.2.2.2.1 i1 (dflt tyCheck))))
  (T.bind (ref5_Name (nth f2.2.2.2.2.2.1 i1 (dflt tyCheck)).1) fun r1 =>
 .ite (!r1)
  (.ret (true,(nth f2.2.2.2.2.2.1 i1 (dflt tyCheck))))
  (.ite (decide ((nth f2.2.2.2.2.2.1 i1 (dflt tyCheck)).2.2.1 < (0 : Int)))
  (.ret (true,(nth f2.2.2.2.2.2.1 i1 (dflt tyCheck))))
  (.ite (decide ((2 : Int) < (nth f2.2.2.2.2.2.1 i1 (dflt tyCheck)).2.2.1))
  (.ret (true,(nth f2.2.2.2.2.2.1 i1 (dflt tyCheck))))
  (T.bind (ref5_Is (Expr.mk (Expr.kind (nth f2.2.2.2.2.2.1 i1 (dflt tyCheck)).2.2.2.1) ((Expr.num (nth f2.2.2.2.2.2.1 i1 (dflt tyCheck)).2.2.2.1).1,((Expr.num (nth f2.2.2.2.2.2.1 i1 (dflt tyCheck)).2.2.2.1).2.1,((Expr.num (nth f2.2.2.2.2.2.1 i1 (dflt tyCheck)).2.2.2.1).2.2.1,()))) (Expr.name (nth f2.2.2.2.2.2.1 i1 (dflt tyCheck)).2.2.2.1) (Expr.kids (nth f2.2.2.2.2.2.1 i1 (dflt tyCheck)).2.2.2.1))) fun r2 =>
 .ite (!r2)
  (.ret (true,(nth f2.2.2.2.2.2.1 i1 (dflt tyCheck))))
  (T.bind (ref5_Is (Expr.mk (Expr.kind (nth f2.2.2.2.2.2.1 i1 (dflt tyCheck)).2.2.2.2.1) ((Expr.num (nth f2.2.2.2.2.2.1 i1 (dflt tyCheck)).2.2.2.2.1).1,((Expr.num (nth f2.2.2.2.2.2.1 i1 (dflt tyCheck)).2.2.2.2.1).2.1,((Expr.num (nth f2.2.2.2.2.2.1 i1 (dflt tyCheck)).2.2.2.2.1).2.2.1,()))) (Expr.name (nth f2.2.2.2.2.2.1 i1 (dflt tyCheck)).2.2.2.2.1) (Expr.kids (nth f2.2.2.2.2.2.1 i1 (dflt tyCheck)).2.2.2.2.1))) fun r3 =>
 .ret ((!r3),(nth f2.2.2.2.2.2.1 i1 (dflt tyCheck))))))))) : T ((Bool × Check))) fun (x2,v1) =>
 .ite x2
  (.ret (.inr (.inr false)))
  (.ret (.inl (v1.2.1,(w64 (i1 + 1))))))
  (.ret (.inr (.inl ())))
def ref6_pages_L1 (f2 : Form) (s : (Int × Int)) : T (Unit ⊕ Bool) := T.loop (ref6_pages_R1 f2) s
def ref6_pages (f : Form) : T Bool :=
 T.bind (ref6_pages_L0 f ((0 : Int),(0 : Int))) <|
 Sum.elim (fun _ =>
 T.bind (ref6_pages_L1 f ((0 : Int),(0 : Int))) <|
 Sum.elim (fun _ =>
 .ret true)
  (fun x3 =>
 .ret x3))
  (fun x1 =>
 .ret x1)
def ref3_Print (a : Rat) : T Str :=
 T.bind (ref2_Norm a) fun r =>
 T.bind (ref3_sign r.1) fun r1 =>
 T.bind (ref1_Print r.2.1) fun r2 =>
 .obl ((r1.length + r2.length) ≤ (4611686018427387904 : Nat)) <|
 .obl ((((Nat.cast r.2.2.1.length : Int) != (1 : Int)) = false) → (idxOk (0 : Int) r.2.2.1.length)) <|
 .ite (((Nat.cast r.2.2.1.length : Int) != (1 : Int)) || ((nth r.2.2.1 (0 : Int) (dflt (.int .u32))) != 1))
  (.obl (((List.length (cat r1 r2)) + (List.length ([47] : Str))) ≤ (4611686018427387904 : Nat)) <|
 T.bind (ref1_Print r.2.2.1) fun r3 =>
 .obl (((List.length (cat (cat r1 r2) ([47] : Str))) + r3.length) ≤ (4611686018427387904 : Nat)) <|
 .ret (cat (cat (cat r1 r2) ([47] : Str)) r3))
  (.ret (cat r1 r2))
def ref6_when (s : Str) : T Str :=
 .ite (strEq s ([] : Str))
  (.ret ([] : Str))
  (.obl (((List.length ([32,119,104,101,110,32] : Str)) + s.length) ≤ (4611686018427387904 : Nat)) <|
 .ret (cat ([32,119,104,101,110,32] : Str) s))
def ref6_field (f : Field) : T Str :=
 .obl (((List.length ([102,105,101,108,100,32] : Str)) + f.1.length) ≤ (4611686018427387904 : Nat)) <|
 .obl ((f.2.2.1 = true) → (((List.length (cat ([102,105,101,108,100,32] : Str) f.1)) + (List.length ([32,109,117,115,116] : Str))) ≤ (4611686018427387904 : Nat))) <|
 .ite (f.2.2.2.1 != 0)
  (.obl (((List.length (bif f.2.2.1 then (cat (cat ([102,105,101,108,100,32] : Str) f.1) ([32,109,117,115,116] : Str)) else (cat ([102,105,101,108,100,32] : Str) f.1))) + (List.length ([32,115,99,97,108,101,32] : Str))) ≤ (4611686018427387904 : Nat)) <|
 .obl (((List.length (cat (bif f.2.2.1 then (cat (cat ([102,105,101,108,100,32] : Str) f.1) ([32,109,117,115,116] : Str)) else (cat ([102,105,101,108,100,32] : Str) f.1)) ([32,115,99,97,108,101,32] : Str))) + (List.length (bytesStr ([(wu8 (w64 ((48 : Int) + f.2.2.2.1)))] : List Int)))) ≤ (4611686018427387904 : Nat)) <|
 .obl (((List.length (cat (cat (bif f.2.2.1 then (cat (cat ([102,105,101,108,100,32] : Str) f.1) ([32,109,117,115,116] : Str)) else (cat ([102,105,101,108,100,32] : Str) f.1)) ([32,115,99,97,108,101,32] : Str)) (bytesStr ([(wu8 (w64 ((48 : Int) + f.2.2.2.1)))] : List Int)))) + (List.length ([10] : Str))) ≤ (4611686018427387904 : Nat)) <|
 .ret (cat (cat (cat (bif f.2.2.1 then (cat (cat ([102,105,101,108,100,32] : Str) f.1) ([32,109,117,115,116] : Str)) else (cat ([102,105,101,108,100,32] : Str) f.1)) ([32,115,99,97,108,101,32] : Str)) (bytesStr ([(wu8 (w64 ((48 : Int) + f.2.2.2.1)))] : List Int))) ([10] : Str)))
  (.obl (((List.length (bif f.2.2.1 then (cat (cat ([102,105,101,108,100,32] : Str) f.1) ([32,109,117,115,116] : Str)) else (cat ([102,105,101,108,100,32] : Str) f.1))) + (List.length ([10] : Str))) ≤ (4611686018427387904 : Nat)) <|
 .ret (cat (bif f.2.2.1 then (cat (cat ([102,105,101,108,100,32] : Str) f.1) ([32,109,117,115,116] : Str)) else (cat ([102,105,101,108,100,32] : Str) f.1)) ([10] : Str)))
def ref5_row (kind : Int) : T Int :=
 .ite (bif (kind == 3) then (kind == 3) else (kind == 4))
  (.ret (1 : Int))
  (.ite (bif (kind == 5) then (kind == 5) else (kind == 6))
  (.ret (2 : Int))
  (.ite (kind == 7)
  (.ret (3 : Int))
  (.ret (4 : Int))))
def ref5_text_B (self_ref5_text : AM.Expr → Int → T Str) (e : AM.Expr) (asks : Int) : T Str :=
 T.bind (.ite ((Expr.kind e) == 1)
  (T.bind (ref3_Exact (Expr.num e)) fun (s,r) =>
 .ret s)
  (.ite ((Expr.kind e) == 2)
  (.ret (Expr.name e))
  (.ite ((Expr.kind e) == 7)
  (.obl (idxOk (0 : Int) (List.length (Expr.kids e))) <|
 T.bind (self_ref5_text (nth (Expr.kids e) (0 : Int) (dflt .expr)) (3 : Int)) fun r1 =>
 .obl (((List.length ([45] : Str)) + r1.length) ≤ (4611686018427387904 : Nat)) <|
 .ret (cat ([45] : Str) r1))
  (.ite ((Expr.kind e) == 3)
  (.obl (idxOk (0 : Int) (List.length (Expr.kids e))) <|
 T.bind (self_ref5_text (nth (Expr.kids e) (0 : Int) (dflt .expr)) (1 : Int)) fun r2 =>
 .obl ((r2.length + (List.length ([32,43,32] : Str))) ≤ (4611686018427387904 : Nat)) <|
 .obl (idxOk (1 : Int) (List.length (Expr.kids e))) <|
 T.bind (self_ref5_text (nth (Expr.kids e) (1 : Int) (dflt .expr)) (2 : Int)) fun r3 =>
 .obl (((List.length (cat r2 ([32,43,32] : Str))) + r3.length) ≤ (4611686018427387904 : Nat)) <|
 .ret (cat (cat r2 ([32,43,32] : Str)) r3))
  (.ite ((Expr.kind e) == 4)
  (.obl (idxOk (0 : Int) (List.length (Expr.kids e))) <|
 T.bind (self_ref5_text (nth (Expr.kids e) (0 : Int) (dflt .expr)) (1 : Int)) fun r4 =>
 .obl ((r4.length + (List.length ([32,45,32] : Str))) ≤ (4611686018427387904 : Nat)) <|
 .obl (idxOk (1 : Int) (List.length (Expr.kids e))) <|
 T.bind (self_ref5_text (nth (Expr.kids e) (1 : Int) (dflt .expr)) (2 : Int)) fun r5 =>
 .obl (((List.length (cat r4 ([32,45,32] : Str))) + r5.length) ≤ (4611686018427387904 : Nat)) <|
 .ret (cat (cat r4 ([32,45,32] : Str)) r5))
  (.ite ((Expr.kind e) == 5)
  (.obl (idxOk (0 : Int) (List.length (Expr.kids e))) <|
 T.bind (self_ref5_text (nth (Expr.kids e) (0 : Int) (dflt .expr)) (2 : Int)) fun r6 =>
 .obl ((r6.length + (List.length ([32,42,32] : Str))) ≤ (4611686018427387904 : Nat)) <|
 .obl (idxOk (1 : Int) (List.length (Expr.kids e))) <|
 T.bind (self_ref5_text (nth (Expr.kids e) (1 : Int) (dflt .expr)) (3 : Int)) fun r7 =>
 .obl (((List.length (cat r6 ([32,42,32] : Str))) + r7.length) ≤ (4611686018427387904 : Nat)) <|
 .ret (cat (cat r6 ([32,42,32] : Str)) r7))
  (.ite ((Expr.kind e) == 6)
  (.obl (idxOk (0 : Int) (List.length (Expr.kids e))) <|
 T.bind (self_ref5_text (nth (Expr.kids e) (0 : Int) (dflt .expr)) (2 : Int)) fun r8 =>
 .obl ((r8.length + (List.length ([32,47,32] : Str))) ≤ (4611686018427387904 : Nat)) <|
 .obl (idxOk (1 : Int) (List.length (Expr.kids e))) <|
 T.bind (self_ref5_text (nth (Expr.kids e) (1 : Int) (dflt .expr)) (3 : Int)) fun r9 =>
 .obl (((List.length (cat r8 ([32,47,32] : Str))) + r9.length) ≤ (4611686018427387904 : Nat)) <|
 .ret (cat (cat r8 ([32,47,32] : Str)) r9))
  (.ret ([] : Str)))))))) : T (Str)) fun s1 =>
 T.bind (ref5_row (Expr.kind e)) fun r10 =>
 .ite (decide (r10 < asks))
  (.obl (((List.length ([40] : Str)) + s1.length) ≤ (4611686018427387904 : Nat)) <|
 .obl (((List.length (cat ([40] : Str) s1)) + (List.length ([41] : Str))) ≤ (4611686018427387904 : Nat)) <|
 .ret (cat (cat ([40] : Str) s1) ([41] : Str)))
  (.ret s1)
def ref5_text (e : AM.Expr) (asks : Int) : T Str := T.fix (fun F x => ref5_text_B (fun y0 y1 => F (y0,y1)) x.1 x.2) (e,asks)
def ref5_Print (e : AM.Expr) : T Str :=
 T.bind (ref5_Is e) fun r =>
 .ite (!r)
  (.ret ([] : Str))
  (T.bind (ref5_text e (1 : Int)) fun r1 =>
 .ret r1)
def ref6_Cmp (n : Int) : T Str :=
 .ite (n == 1)
  (.ret ([60] : Str))
  (.ite (n == 2)
  (.ret ([60,61] : Str))
  (.ret ([61] : Str)))
def ref6_Strength (n : Int) : T Str :=
 .ite (n == 0)
  (.ret ([114,101,113,117,105,114,101,100] : Str))
  (.ite (n == 1)
  (.ret ([115,116,114,111,110,103] : Str))
  (.ite (n == 2)
  (.ret ([109,101,100,105,117,109] : Str))
  (.ret ([119,101,97,107] : Str))))
def ref6_text_R0 (f1 : Form) : (Str × Int) → T ((Str × Int) ⊕ (Str))
 | (s,i) =>
 .ite (decide (i < (Nat.cast f1.1.length : Int)))
  (.obl (idxOk i f1.1.length) <|
 .obl ((s.length + (List.length ([115,119,105,116,99,104,32] : Str))) ≤ (4611686018427387904 : Nat)) <|
 .obl (idxOk i f1.1.length) <|
 .obl (((List.length (cat s ([115,119,105,116,99,104,32] : Str))) + (List.length (nth f1.1 i (dflt tySwitch)).1)) ≤ (4611686018427387904 : Nat)) <|
 .obl (((List.length (cat (cat s ([115,119,105,116,99,104,32] : Str)) (nth f1.1 i (dflt tySwitch)).1)) + (List.length (bif (nth f1.1 i (dflt tySwitch)).2.1 then ([32,111,110,10] : Str) else ([32,111,102,102,10] : Str)))) ≤ (4611686018427387904 : Nat)) <|
 .ret (.inl ((cat (cat (cat s ([115,119,105,116,99,104,32] : Str)) (nth f1.1 i (dflt tySwitch)).1) (bif (nth f1.1 i (dflt tySwitch)).2.1 then ([32,111,110,10] : Str) else ([32,111,102,102,10] : Str))),(w64 (i + 1)))))
  (.ret (.inr s))
def ref6_text_L0 (f1 : Form) (s : (Str × Int)) : T (Str) := T.loop (ref6_text_R0 f1) s
def ref6_text_R1 (f2 : Form) : (Str × Int) → T ((Str × Int) ⊕ (Str))
 | (s2,i1) =>
 .ite (decide (i1 < (Nat.cast f2.2.1.length : Int)))
  (.obl ((s2.length + (List.length ([112,97,114,97,109,32] : Str))) ≤ (4611686018427387904 : Nat)) <|
 .obl (idxOk i1 f2.2.1.length) <|
 .obl (((List.length (cat s2 ([112,97,114,97,109,32] : Str))) + (List.length (nth f2.2.1 i1 (dflt tyParam)).1)) ≤ (4611686018427387904 : Nat)) <|
 .obl (((List.length (cat (cat s2 ([112,97,114,97,109,32] : Str)) (nth f2.2.1 i1 (dflt tyParam)).1)) + (List.length ([32] : Str))) ≤ (4611686018427387904 : Nat)) <|
 .obl (idxOk i1 f2.2.1.length) <|
 T.bind (ref3_Print (nth f2.2.1 i1 (dflt tyParam)).2.1) fun r =>
 .obl (((List.length (cat (cat (cat s2 ([112,97,114,97,109,32] : Str)) (nth f2.2.1 i1 (dflt tyParam)).1) ([32] : Str))) + r.length) ≤ (4611686018427387904 : Nat)) <|
 .obl (((List.length (cat (cat (cat (cat s2 ([112,97,114,97,109,32] : Str)) (nth f2.2.1 i1 (dflt tyParam)).1) ([32] : Str)) r)) + (List.length ([10] : Str))) ≤ (4611686018427387904 : Nat)) <|
 .ret (.inl ((cat (cat (cat (cat (cat s2 ([112,97,114,97,109,32] : Str)) (nth f2.2.1 i1 (dflt tyParam)).1) ([32] : Str)) r) ([10] : Str)),(w64 (i1 + 1)))))
  (.ret (.inr s2))
def ref6_text_L1 (f2 : Form) (s : (Str × Int)) : T (Str) := T.loop (ref6_text_R1 f2) s
def ref6_text_R3 (f4 : Form) (i3 : Int) : (Str × Int) → T ((Str × Int) ⊕ (Str))
 | (s5,k) =>
 .ite (decide (k < (Nat.cast f4.2.2.2.1.length : Int)))
  (.obl (idxOk k f4.2.2.2.1.length) <|
 .ite ((nth f4.2.2.2.1 k (dflt tyField)).2.1 == i3)
  (.obl (idxOk k f4.2.2.2.1.length) <|
 T.bind (ref6_field (nth f4.2.2.2.1 k (dflt tyField))) fun r2 =>
 .obl ((s5.length + r2.length) ≤ (4611686018427387904 : Nat)) <|
 .ret (.inl ((cat s5 r2),(w64 (k + 1)))))
  (.ret (.inl (s5,(w64 (k + 1))))))
  (.ret (.inr s5))
def ref6_text_L3 (f4 : Form) (i3 : Int) (s : (Str × Int)) : T (Str) := T.loop (ref6_text_R3 f4 i3) s
def ref6_text_R4 (f5 : Form) (i4 : Int) : (Str × Int) → T ((Str × Int) ⊕ (Str))
 | (s7,k1) =>
 .ite (decide (k1 < (Nat.cast f5.2.2.2.2.2.1.length : Int)))
  (.obl (idxOk k1 f5.2.2.2.2.2.1.length) <|
 .ite ((nth f5.2.2.2.2.2.1 k1 (dflt tyCheck)).2.1 == i4)
  (.obl ((s7.length + (List.length ([99,104,101,99,107,32] : Str))) ≤ (4611686018427387904 : Nat)) <|
 .obl (((List.length (cat s7 ([99,104,101,99,107,32] : Str))) + (List.length (nth f5.2.2.2.2.2.1 k1 (dflt tyCheck)).1)) ≤ (4611686018427387904 : Nat)) <|
 .obl (((List.length (cat (cat s7 ([99,104,101,99,107,32] : Str)) (nth f5.2.2.2.2.2.1 k1 (dflt tyCheck)).1)) + (List.length ([32,58,32] : Str))) ≤ (4611686018427387904 : Nat)) <|
 T.bind (ref5_Print (Expr.mk (Expr.kind (nth f5.2.2.2.2.2.1 k1 (dflt tyCheck)).2.2.2.1) ((Expr.num (nth f5.2.2.2.2.2.1 k1 (dflt tyCheck)).2.2.2.1).1,((Expr.num (nth f5.2.2.2.2.2.1 k1 (dflt tyCheck)).2.2.2.1).2.1,((Expr.num (nth f5.2.2.2.2.2.1 k1 (dflt tyCheck)).2.2.2.1).2.2.1,()))) (Expr.name (nth f5.2.2.2.2.2.1 k1 (dflt tyCheck)).2.2.2.1) (Expr.kids (nth f5.2.2.2.2.2.1 k1 (dflt tyCheck)).2.2.2.1))) fun r3 =>
 .obl (((List.length (cat (cat (cat s7 ([99,104,101,99,107,32] : Str)) (nth f5.2.2.2.2.2.1 k1 (dflt tyCheck)).1) ([32,58,32] : Str))) + r3.length) ≤ (4611686018427387904 : Nat)) <|
 .obl (((List.length (cat (cat (cat (cat s7 ([99,104,101,99,107,32] : Str)) (nth f5.2.2.2.2.2.1 k1 (dflt tyCheck)).1) ([32,58,32] : Str)) r3)) + (List.length ([32] : Str))) ≤ (4611686018427387904 : Nat)) <|
 T.bind (ref6_Cmp (nth f5.2.2.2.2.2.1 k1 (dflt tyCheck)).2.2.1) fun r4 =>
 .obl (((List.length (cat (cat (cat (cat (cat s7 ([99,104,101,99,107,32] : Str)) (nth f5.2.2.2.2.2.1 k1 (dflt tyCheck)).1) ([32,58,32] : Str)) r3) ([32] : Str))) + r4.length) ≤ (4611686018427387904 : Nat)) <|
 .obl (((List.length (cat (cat (cat (cat (cat (cat s7 ([99,104,101,99,107,32] : Str)) (nth f5.2.2.2.2.2.1 k1 (dflt tyCheck)).1) ([32,58,32] : Str)) r3) ([32] : Str)) r4)) + (List.length ([32] : Str))) ≤ (4611686018427387904 : Nat)) <|
 T.bind (ref5_Print (Expr.mk (Expr.kind (nth f5.2.2.2.2.2.1 k1 (dflt tyCheck)).2.2.2.2.1) ((Expr.num (nth f5.2.2.2.2.2.1 k1 (dflt tyCheck)).2.2.2.2.1).1,((Expr.num (nth f5.2.2.2.2.2.1 k1 (dflt tyCheck)).2.2.2.2.1).2.1,((Expr.num (nth f5.2.2.2.2.2.1 k1 (dflt tyCheck)).2.2.2.2.1).2.2.1,()))) (Expr.name (nth f5.2.2.2.2.2.1 k1 (dflt tyCheck)).2.2.2.2.1) (Expr.kids (nth f5.2.2.2.2.2.1 k1 (dflt tyCheck)).2.2.2.2.1))) fun r5 =>
 .obl (((List.length (cat (cat (cat (cat (cat (cat (cat s7 ([99,104,101,99,107,32] : Str)) (nth f5.2.2.2.2.2.1 k1 (dflt tyCheck)).1) ([32,58,32] : Str)) r3) ([32] : Str)) r4) ([32] : Str))) + r5.length) ≤ (4611686018427387904 : Nat)) <|
 .obl (((List.length (cat (cat (cat (cat (cat (cat (cat (cat s7 ([99,104,101,99,107,32] : Str)) (nth f5.2.2.2.2.2.1 k1 (dflt tyCheck)).1) ([32,58,32] : Str)) r3) ([32] : Str)) r4) ([32] : Str)) r5)) + (List.length ([10] : Str))) ≤ (4611686018427387904 : Nat)) <|
 .ret (.inl ((cat (cat (cat (cat (cat (cat (cat (cat (cat s7 ([99,104,101,99,107,32] : Str)) (nth f5.2.2.2.2.2.1 k1 (dflt tyCheck)).1) ([32,58,32] : Str)) r3) ([32] : Str)) r4) ([32] : Str)) r5) ([10] : Str)),(w64 (k1 + 1)))))
  (.ret (.inl (s7,(w64 (k1 + 1))))))
  (.ret (.inr s7))
def ref6_text_L4 (f5 : Form) (i4 : Int) (s : (Str × Int)) : T (Str) := T.loop (ref6_text_R4 f5 i4) s
def ref6_text_R2 (f3 : Form) : (Str × Int) → T ((Str × Int) ⊕ (Str))
 | (s4,i2) =>
 .ite (decide (i2 < (Nat.cast f3.2.2.1.length : Int)))
  (.obl ((s4.length + (List.length ([112,97,103,101,32] : Str))) ≤ (4611686018427387904 : Nat)) <|
 .obl (idxOk i2 f3.2.2.1.length) <|
 .obl (((List.length (cat s4 ([112,97,103,101,32] : Str))) + (List.length (nth f3.2.2.1 i2 (dflt tyPage)).1)) ≤ (4611686018427387904 : Nat)) <|
 .obl (idxOk i2 f3.2.2.1.length) <|
 T.bind (ref6_when (nth f3.2.2.1 i2 (dflt tyPage)).2.1) fun r1 =>
 .obl (((List.length (cat (cat s4 ([112,97,103,101,32] : Str)) (nth f3.2.2.1 i2 (dflt tyPage)).1)) + r1.length) ≤ (4611686018427387904 : Nat)) <|
 .obl (((List.length (cat (cat (cat s4 ([112,97,103,101,32] : Str)) (nth f3.2.2.1 i2 (dflt tyPage)).1) r1)) + (List.length ([10] : Str))) ≤ (4611686018427387904 : Nat)) <|
 T.bind (ref6_text_L3 f3 i2 ((cat (cat (cat (cat s4 ([112,97,103,101,32] : Str)) (nth f3.2.2.1 i2 (dflt tyPage)).1) r1) ([10] : Str)),(0 : Int))) fun s6 =>
 T.bind (ref6_text_L4 f3 i2 (s6,(0 : Int))) fun s8 =>
 .ret (.inl (s8,(w64 (i2 + 1)))))
  (.ret (.inr s4))
def ref6_text_L2 (f3 : Form) (s : (Str × Int)) : T (Str) := T.loop (ref6_text_R2 f3) s
def ref6_text_R5 (f6 : Form) : (Str × Int) → T ((Str × Int) ⊕ (Str))
 | (s10,i5) =>
 .ite (decide (i5 < (Nat.cast f6.2.2.2.2.1.length : Int)))
  (.obl (idxOk i5 f6.2.2.2.2.1.length) <|
 .obl ((s10.length + (List.length ([114,117,108,101,32] : Str))) ≤ (4611686018427387904 : Nat)) <|
 T.bind (ref6_Strength (nth f6.2.2.2.2.1 i5 (dflt tyRule)).2.1) fun r6 =>
 .obl (((List.length (cat s10 ([114,117,108,101,32] : Str))) + r6.length) ≤ (4611686018427387904 : Nat)) <|
 .obl (((List.length (cat (cat s10 ([114,117,108,101,32] : Str)) r6)) + (List.length ([32] : Str))) ≤ (4611686018427387904 : Nat)) <|
 .obl (((List.length (cat (cat (cat s10 ([114,117,108,101,32] : Str)) r6) ([32] : Str))) + (List.length (nth f6.2.2.2.2.1 i5 (dflt tyRule)).1)) ≤ (4611686018427387904 : Nat)) <|
 T.bind (ref6_when (nth f6.2.2.2.2.1 i5 (dflt tyRule)).2.2.1) fun r7 =>
 .obl (((List.length (cat (cat (cat (cat s10 ([114,117,108,101,32] : Str)) r6) ([32] : Str)) (nth f6.2.2.2.2.1 i5 (dflt tyRule)).1)) + r7.length) ≤ (4611686018427387904 : Nat)) <|
 .obl (((List.length (cat (cat (cat (cat (cat s10 ([114,117,108,101,32] : Str)) r6) ([32] : Str)) (nth f6.2.2.2.2.1 i5 (dflt tyRule)).1) r7)) + (List.length ([32,58,32] : Str))) ≤ (4611686018427387904 : Nat)) <|
 T.bind (ref5_Print (Expr.mk (Expr.kind (nth f6.2.2.2.2.1 i5 (dflt tyRule)).2.2.2.1) ((Expr.num (nth f6.2.2.2.2.1 i5 (dflt tyRule)).2.2.2.1).1,((Expr.num (nth f6.2.2.2.2.1 i5 (dflt tyRule)).2.2.2.1).2.1,((Expr.num (nth f6.2.2.2.2.1 i5 (dflt tyRule)).2.2.2.1).2.2.1,()))) (Expr.name (nth f6.2.2.2.2.1 i5 (dflt tyRule)).2.2.2.1) (Expr.kids (nth f6.2.2.2.2.1 i5 (dflt tyRule)).2.2.2.1))) fun r8 =>
 .obl (((List.length (cat (cat (cat (cat (cat (cat s10 ([114,117,108,101,32] : Str)) r6) ([32] : Str)) (nth f6.2.2.2.2.1 i5 (dflt tyRule)).1) r7) ([32,58,32] : Str))) + r8.length) ≤ (4611686018427387904 : Nat)) <|
 .obl (((List.length (cat (cat (cat (cat (cat (cat (cat s10 ([114,117,108,101,32] : Str)) r6) ([32] : Str)) (nth f6.2.2.2.2.1 i5 (dflt tyRule)).1) r7) ([32,58,32] : Str)) r8)) + (List.length ([32,61,32] : Str))) ≤ (4611686018427387904 : Nat)) <|
 T.bind (ref5_Print (Expr.mk (Expr.kind (nth f6.2.2.2.2.1 i5 (dflt tyRule)).2.2.2.2.1) ((Expr.num (nth f6.2.2.2.2.1 i5 (dflt tyRule)).2.2.2.2.1).1,((Expr.num (nth f6.2.2.2.2.1 i5 (dflt tyRule)).2.2.2.2.1).2.1,((Expr.num (nth f6.2.2.2.2.1 i5 (dflt tyRule)).2.2.2.2.1).2.2.1,()))) (Expr.name (nth f6.2.2.2.2.1 i5 (dflt tyRule)).2.2.2.2.1) (Expr.kids (nth f6.2.2.2.2.1 i5 (dflt tyRule)).2.2.2.2.1))) fun r9 =>
 .obl (((List.length (cat (cat (cat (cat (cat (cat (cat (cat s10 ([114,117,108,101,32] : Str)) r6) ([32] : Str)) (nth f6.2.2.2.2.1 i5 (dflt tyRule)).1) r7) ([32,58,32] : Str)) r8) ([32,61,32] : Str))) + r9.length) ≤ (4611686018427387904 : Nat)) <|
 .obl (((List.length (cat (cat (cat (cat (cat (cat (cat (cat (cat s10 ([114,117,108,101,32] : Str)) r6) ([32] : Str)) (nth f6.2.2.2.2.1 i5 (dflt tyRule)).1) r7) ([32,58,32] : Str)) r8) ([32,61,32] : Str)) r9)) + (List.length ([10] : Str))) ≤ (4611686018427387904 : Nat)) <|
 .ret (.inl ((cat (cat (cat (cat (cat (cat (cat (cat (cat (cat s10 ([114,117,108,101,32] : Str)) r6) ([32] : Str)) (nth f6.2.2.2.2.1 i5 (dflt tyRule)).1) r7) ([32,58,32] : Str)) r8) ([32,61,32] : Str)) r9) ([10] : Str)),(w64 (i5 + 1)))))
  (.ret (.inr s10))
def ref6_text_L5 (f6 : Form) (s : (Str × Int)) : T (Str) := T.loop (ref6_text_R5 f6) s
def ref6_text (f : Form) : T Str :=
 T.bind (ref6_text_L0 f (([] : Str),(0 : Int))) fun s1 =>
 T.bind (ref6_text_L1 f (s1,(0 : Int))) fun s3 =>
 T.bind (ref6_text_L2 f (s3,(0 : Int))) fun s9 =>
 T.bind (ref6_text_L5 f (s9,(0 : Int))) fun s11 =>
 .ret s11
def ref6_Is_R0 (f1 : Form) : Int → T (Int ⊕ (Unit ⊕ Bool))
 | i =>
 .ite (decide (i < (Nat.cast f1.1.length : Int)))
  (.obl (idxOk i f1.1.length) <|
 T.bind (ref5_Name (nth f1.1 i (dflt tySwitch)).1) fun r =>
 .ite (!r)
  (.ret (.inr (.inr false)))
  (.ret (.inl (w64 (i + 1)))))
  (.ret (.inr (.inl ())))
def ref6_Is_L0 (f1 : Form) (s : Int) : T (Unit ⊕ Bool) := T.loop (ref6_Is_R0 f1) s
def ref6_Is_R1 (f2 : Form) : Int → T (Int ⊕ (Unit ⊕ Bool))
 | i1 =>
 .ite (decide (i1 < (Nat.cast f2.2.1.length : Int)))
  (T.bind (.obl (idxOk i1 f2.2.1.length) <|
 T.bind (ref5_Name (nth f2.2.1 i1 (dflt tyParam)).1) fun r1 =>
 .ite (!r1)
  (.ret true)
  (.obl (idxOk i1 f2.2.1.length) <|
 T.bind (ref2_Good (nth f2.2.1 i1 (dflt tyParam)).2.1) fun r2 =>
 .ret (!r2)) : T (Bool)) fun x1 =>
 .ite x1
  (.ret (.inr (.inr false)))
  (.ret (.inl (w64 (i1 + 1)))))
  (.ret (.inr (.inl ())))
def ref6_Is_L1 (f2 : Form) (s : Int) : T (Unit ⊕ Bool) := T.loop (ref6_Is_R1 f2) s
def ref6_Is_R2 (f3 : Form) : Int → T (Int ⊕ (Unit ⊕ Bool))
 | i2 =>
 .ite (decide (i2 < (Nat.cast f3.2.2.1.length : Int)))
  (T.bind (.obl (idxOk i2 f3.2.2.1.length) <|
 T.bind (ref5_Name (nth f3.2.2.1 i2 (dflt tyPage)).1) fun r3 =>
 .ite (!r3)
  (.ret true)
  (.obl (idxOk i2 f3.2.2.1.length) <|
 T.bind (ref6_guard (nth f3.2.2.1 i2 (dflt tyPage)).2.1) fun r4 =>
 .ret (!r4)) : T (Bool)) fun x3 =>
 .ite x3
  (.ret (.inr (.inr false)))
  (.ret (.inl (w64 (i2 + 1)))))
  (.ret (.inr (.inl ())))
def ref6_Is_L2 (f3 : Form) (s : Int) : T (Unit ⊕ Bool) := T.loop (ref6_Is_R2 f3) s
def ref6_Is_R3 (f4 : Form) : Int → T (Int ⊕ (Unit ⊕ Bool))
 | i3 =>
 .ite (decide (i3 < (Nat.cast f4.2.2.2.2.1.length : Int)))
  (.obl (idxOk i3 f4.2.2.2.2.1.length) <|
 T.bind (T.bind (ref5_Name (nth f4.2.2.2.2.1 i3 (dflt tyRule)).1) fun r5 =>
 .ite (!r5)
  (.ret (true,(nth f4.2.2.2.2.1 i3 (dflt tyRule))))
  (T.bind (ref6_guard (nth f4.2.2.2.2.1 i3 (dflt tyRule)).2.2.1) fun r6 =>
 .ite (!r6)
  (.ret (true,(nth f4.2.2.2.2.1 i3 (dflt tyRule))))
  (.ite (decide ((nth f4.2.2.2.2.1 i3 (dflt tyRule)).2.1 < (0 : Int)))
  (.ret (true,(nth f4.2.2.2.2.1 i3 (dflt tyRule))))
  (.ite (decide ((3 : Int) < (nth f4.2.2.2.2.1 i3 (dflt tyRule)).2.1))
  (.ret (true,(nth f4.2.2.2.2.1 i3 (dflt tyRule))))
  (T.bind (ref5_Is (Expr.mk (Expr.kind (nth f4.2.2.2.2.1 i3 (dflt tyRule)).2.2.2.1) ((Expr.num (nth f4.2.2.2.2.1 i3 (dflt tyRule)).2.2.2.1).1,((Expr.num (nth f4.2.2.2.2.1 i3 (dflt tyRule)).2.2.2.1).2.1,((Expr.num (nth f4.2.2.2.2.1 i3 (dflt tyRule)).2.2.2.1).2.2.1,()))) (Expr.name (nth f4.2.2.2.2.1 i3 (dflt tyRule)).2.2.2.1) (Expr.kids (nth f4.2.2.2.2.1 i3 (dflt tyRule)).2.2.2.1))) fun r7 =>
 .ite (!r7)
  (.ret (true,(nth f4.2.2.2.2.1 i3 (dflt tyRule))))
  (T.bind (ref5_Is (Expr.mk (Expr.kind (nth f4.2.2.2.2.1 i3 (dflt tyRule)).2.2.2.2.1) ((Expr.num (nth f4.2.2.2.2.1 i3 (dflt tyRule)).2.2.2.2.1).1,((Expr.num (nth f4.2.2.2.2.1 i3 (dflt tyRule)).2.2.2.2.1).2.1,((Expr.num (nth f4.2.2.2.2.1 i3 (dflt tyRule)).2.2.2.2.1).2.2.1,()))) (Expr.name (nth f4.2.2.2.2.1 i3 (dflt tyRule)).2.2.2.2.1) (Expr.kids (nth f4.2.2.2.2.1 i3 (dflt tyRule)).2.2.2.2.1))) fun r8 =>
 .ret ((!r8),(nth f4.2.2.2.2.1 i3 (dflt tyRule)))))))) : T ((Bool × Rule))) fun (x5,v) =>
 .ite x5
  (.ret (.inr (.inr false)))
  (.ret (.inl (w64 (i3 + 1)))))
  (.ret (.inr (.inl ())))
def ref6_Is_L3 (f4 : Form) (s : Int) : T (Unit ⊕ Bool) := T.loop (ref6_Is_R3 f4) s
def ref6_Is (f : Form) : T Bool :=
 T.bind (ref6_Is_L0 f (0 : Int)) <|
 Sum.elim (fun _ =>
 T.bind (ref6_Is_L1 f (0 : Int)) <|
 Sum.elim (fun _ =>
 T.bind (ref6_Is_L2 f (0 : Int)) <|
 Sum.elim (fun _ =>
 T.bind (ref6_Is_L3 f (0 : Int)) <|
 Sum.elim (fun _ =>
 T.bind (ref6_pages f) fun r9 =>
 .ite r9
  (T.bind (ref6_text f) fun r10 =>
 .ret (decide ((Nat.cast r10.length : Int) ≤ (16384 : Int))))
  (.ret false))
  (fun x6 =>
 .ret x6))
  (fun x4 =>
 .ret x4))
  (fun x2 =>
 .ret x2))
  (fun x =>
 .ret x)
def ref7_Fields_R0 (f1 : Form) : (Int × (List Str)) → T ((Int × (List Str)) ⊕ ((List Str)))
 | (i,xs) =>
 .ite (decide (i < (Nat.cast f1.2.2.2.1.length : Int)))
  (.obl (idxOk i f1.2.2.2.1.length) <|
 .obl (appOk xs.length xs.length (0 : Nat) xs.length xs.length (1 : Nat) (16 : Nat)) <|
 .obl (curOk (xs.length + (1 : Nat)) (0 : Nat) (xs.length + (1 : Nat)) (List.length (xs ++ ([(nth f1.2.2.2.1 i (dflt tyField)).1] : List Str)))) <|
 .obl ((xs.length + (1 : Nat)) = (List.length (xs ++ ([(nth f1.2.2.2.1 i (dflt tyField)).1] : List Str)))) <|
 .ret (.inl ((w64 (i + 1)),(xs ++ ([(nth f1.2.2.2.1 i (dflt tyField)).1] : List Str)))))
  (.obl (curOk xs.length (0 : Nat) xs.length xs.length) <|
 .obl (xs.length = xs.length) <|
 .ret (.inr xs))
def ref7_Fields_L0 (f1 : Form) (s : (Int × (List Str))) : T ((List Str)) := T.loop (ref7_Fields_R0 f1) s
def ref7_Fields (f : Form) : T (List Str) :=
 .obl (curOk (0 : Nat) (0 : Nat) (0 : Nat) (0 : Nat)) <|
 .obl ((0 : Nat) = (0 : Nat)) <|
 T.bind (ref7_Fields_L0 f ((0 : Int),([] : List Str))) fun xs1 =>
 .obl (xs1.length = xs1.length) <|
 .ret (List.drop (0 : Nat) (List.take ((0 : Nat) + xs1.length) xs1))
def ref7_names_R0 (f1 : Form) : (Int × (List Str)) → T ((Int × (List Str)) ⊕ ((List Str)))
 | (i,xs) =>
 .ite (decide (i < (Nat.cast f1.1.length : Int)))
  (.obl (idxOk i f1.1.length) <|
 .obl (appOk xs.length xs.length (0 : Nat) xs.length xs.length (1 : Nat) (16 : Nat)) <|
 .obl (curOk (xs.length + (1 : Nat)) (0 : Nat) (xs.length + (1 : Nat)) (List.length (xs ++ ([(nth f1.1 i (dflt tySwitch)).1] : List Str)))) <|
 .obl ((xs.length + (1 : Nat)) = (List.length (xs ++ ([(nth f1.1 i (dflt tySwitch)).1] : List Str)))) <|
 .ret (.inl ((w64 (i + 1)),(xs ++ ([(nth f1.1 i (dflt tySwitch)).1] : List Str)))))
  (.obl (curOk xs.length (0 : Nat) xs.length xs.length) <|
 .obl (xs.length = xs.length) <|
 .ret (.inr xs))
def ref7_names_L0 (f1 : Form) (s : (Int × (List Str))) : T ((List Str)) := T.loop (ref7_names_R0 f1) s
def ref7_names_R1 (f2 : Form) : (Int × (List Str)) → T ((Int × (List Str)) ⊕ ((List Str)))
 | (i1,xs2) =>
 .ite (decide (i1 < (Nat.cast f2.2.1.length : Int)))
  (.obl (idxOk i1 f2.2.1.length) <|
 .obl (appOk xs2.length xs2.length (0 : Nat) xs2.length xs2.length (1 : Nat) (16 : Nat)) <|
 .obl (curOk (xs2.length + (1 : Nat)) (0 : Nat) (xs2.length + (1 : Nat)) (List.length (xs2 ++ ([(nth f2.2.1 i1 (dflt tyParam)).1] : List Str)))) <|
 .obl ((xs2.length + (1 : Nat)) = (List.length (xs2 ++ ([(nth f2.2.1 i1 (dflt tyParam)).1] : List Str)))) <|
 .ret (.inl ((w64 (i1 + 1)),(xs2 ++ ([(nth f2.2.1 i1 (dflt tyParam)).1] : List Str)))))
  (.obl (curOk xs2.length (0 : Nat) xs2.length xs2.length) <|
 .obl (xs2.length = xs2.length) <|
 .ret (.inr xs2))
def ref7_names_L1 (f2 : Form) (s : (Int × (List Str))) : T ((List Str)) := T.loop (ref7_names_R1 f2) s
def ref7_names_R2 (f3 : Form) : (Int × (List Str)) → T ((Int × (List Str)) ⊕ ((List Str)))
 | (i2,xs4) =>
 .ite (decide (i2 < (Nat.cast f3.2.2.1.length : Int)))
  (.obl (idxOk i2 f3.2.2.1.length) <|
 .obl (appOk xs4.length xs4.length (0 : Nat) xs4.length xs4.length (1 : Nat) (16 : Nat)) <|
 .obl (curOk (xs4.length + (1 : Nat)) (0 : Nat) (xs4.length + (1 : Nat)) (List.length (xs4 ++ ([(nth f3.2.2.1 i2 (dflt tyPage)).1] : List Str)))) <|
 .obl ((xs4.length + (1 : Nat)) = (List.length (xs4 ++ ([(nth f3.2.2.1 i2 (dflt tyPage)).1] : List Str)))) <|
 .ret (.inl ((w64 (i2 + 1)),(xs4 ++ ([(nth f3.2.2.1 i2 (dflt tyPage)).1] : List Str)))))
  (.obl (curOk xs4.length (0 : Nat) xs4.length xs4.length) <|
 .obl (xs4.length = xs4.length) <|
 .ret (.inr xs4))
def ref7_names_L2 (f3 : Form) (s : (Int × (List Str))) : T ((List Str)) := T.loop (ref7_names_R2 f3) s
def ref7_names_R3 (f4 : Form) : (Int × (List Str)) → T ((Int × (List Str)) ⊕ ((List Str)))
 | (i3,xs6) =>
 .ite (decide (i3 < (Nat.cast f4.2.2.2.2.1.length : Int)))
  (.obl (idxOk i3 f4.2.2.2.2.1.length) <|
 .obl (appOk xs6.length xs6.length (0 : Nat) xs6.length xs6.length (1 : Nat) (16 : Nat)) <|
 .obl (curOk (xs6.length + (1 : Nat)) (0 : Nat) (xs6.length + (1 : Nat)) (List.length (xs6 ++ ([(nth f4.2.2.2.2.1 i3 (dflt tyRule)).1] : List Str)))) <|
 .obl ((xs6.length + (1 : Nat)) = (List.length (xs6 ++ ([(nth f4.2.2.2.2.1 i3 (dflt tyRule)).1] : List Str)))) <|
 .ret (.inl ((w64 (i3 + 1)),(xs6 ++ ([(nth f4.2.2.2.2.1 i3 (dflt tyRule)).1] : List Str)))))
  (.obl (curOk xs6.length (0 : Nat) xs6.length xs6.length) <|
 .obl (xs6.length = xs6.length) <|
 .ret (.inr xs6))
def ref7_names_L3 (f4 : Form) (s : (Int × (List Str))) : T ((List Str)) := T.loop (ref7_names_R3 f4) s
def ref7_names_R4 (f5 : Form) : (Int × (List Str)) → T ((Int × (List Str)) ⊕ ((List Str)))
 | (i4,xs8) =>
 .ite (decide (i4 < (Nat.cast f5.2.2.2.2.2.1.length : Int)))
  (.obl (idxOk i4 f5.2.2.2.2.2.1.length) <|
 .obl (appOk xs8.length xs8.length (0 : Nat) xs8.length xs8.length (1 : Nat) (16 : Nat)) <|
 .obl (curOk (xs8.length + (1 : Nat)) (0 : Nat) (xs8.length + (1 : Nat)) (List.length (xs8 ++ ([(nth f5.2.2.2.2.2.1 i4 (dflt tyCheck)).1] : List Str)))) <|
 .obl ((xs8.length + (1 : Nat)) = (List.length (xs8 ++ ([(nth f5.2.2.2.2.2.1 i4 (dflt tyCheck)).1] : List Str)))) <|
 .ret (.inl ((w64 (i4 + 1)),(xs8 ++ ([(nth f5.2.2.2.2.2.1 i4 (dflt tyCheck)).1] : List Str)))))
  (.obl (curOk xs8.length (0 : Nat) xs8.length xs8.length) <|
 .obl (xs8.length = xs8.length) <|
 .ret (.inr xs8))
def ref7_names_L4 (f5 : Form) (s : (Int × (List Str))) : T ((List Str)) := T.loop (ref7_names_R4 f5) s
def ref7_names (f : Form) : T (List Str) :=
 .obl (curOk (0 : Nat) (0 : Nat) (0 : Nat) (0 : Nat)) <|
 .obl ((0 : Nat) = (0 : Nat)) <|
 T.bind (ref7_names_L0 f ((0 : Int),([] : List Str))) fun xs1 =>
 .obl (curOk xs1.length (0 : Nat) xs1.length xs1.length) <|
 .obl (xs1.length = xs1.length) <|
 T.bind (ref7_names_L1 f ((0 : Int),xs1)) fun xs3 =>
 .obl (curOk xs3.length (0 : Nat) xs3.length xs3.length) <|
 .obl (xs3.length = xs3.length) <|
 T.bind (ref7_names_L2 f ((0 : Int),xs3)) fun xs5 =>
 T.bind (ref7_Fields f) fun r =>
 .obl (appOk xs5.length xs5.length (0 : Nat) xs5.length xs5.length r.length (16 : Nat)) <|
 .obl (curOk (xs5.length + r.length) (0 : Nat) (xs5.length + r.length) (List.length (xs5 ++ r))) <|
 .obl ((xs5.length + r.length) = (List.length (xs5 ++ r))) <|
 T.bind (ref7_names_L3 f ((0 : Int),(xs5 ++ r))) fun xs7 =>
 .obl (curOk xs7.length (0 : Nat) xs7.length xs7.length) <|
 .obl (xs7.length = xs7.length) <|
 T.bind (ref7_names_L4 f ((0 : Int),xs7)) fun xs9 =>
 .obl (xs9.length = xs9.length) <|
 .ret (List.drop (0 : Nat) (List.take ((0 : Nat) + xs9.length) xs9))
def ref5_Has_R0 (l1 : (List Str)) (s1 : Str) : Int → T (Int ⊕ (Unit ⊕ Bool))
 | i =>
 .ite (decide (i < (Nat.cast l1.length : Int)))
  (.obl (idxOk i l1.length) <|
 .ite (strEq (nth l1 i (dflt .str)) s1)
  (.ret (.inr (.inr true)))
  (.ret (.inl (w64 (i + 1)))))
  (.ret (.inr (.inl ())))
def ref5_Has_L0 (l1 : (List Str)) (s1 : Str) (s : Int) : T (Unit ⊕ Bool) := T.loop (ref5_Has_R0 l1 s1) s
def ref5_Has (l : (List Str)) (s : Str) : T Bool :=
 T.bind (ref5_Has_L0 l s (0 : Int)) <|
 Sum.elim (fun _ =>
 .ret false)
  (fun x =>
 .ret x)
def ref7_twice_R0 (l1 : (List Str)) : Int → T (Int ⊕ (Unit ⊕ Str))
 | i =>
 .ite (decide (i < (Nat.cast l1.length : Int)))
  (.obl (slOk (0 : Int) i l1.length) <|
 .obl (idxOk i l1.length) <|
 T.bind (ref5_Has (cutL (e := .str) (0 : Int) i l1) (nth l1 i (dflt .str))) fun r =>
 .ite r
  (.obl (idxOk i l1.length) <|
 .ret (.inr (.inr (nth l1 i (dflt .str)))))
  (.ret (.inl (w64 (i + 1)))))
  (.ret (.inr (.inl ())))
def ref7_twice_L0 (l1 : (List Str)) (s : Int) : T (Unit ⊕ Str) := T.loop (ref7_twice_R0 l1) s
def ref7_twice (l : (List Str)) : T Str :=
 T.bind (ref7_twice_L0 l (0 : Int)) <|
 Sum.elim (fun _ =>
 .ret ([] : Str))
  (fun x =>
 .ret x)
def ref7_guards_R0 (f1 : Form) : (Int × (List Str)) → T ((Int × (List Str)) ⊕ ((List Str)))
 | (i,xs) =>
 .ite (decide (i < (Nat.cast f1.1.length : Int)))
  (.obl (idxOk i f1.1.length) <|
 .obl (appOk xs.length xs.length (0 : Nat) xs.length xs.length (1 : Nat) (16 : Nat)) <|
 .obl (curOk (xs.length + (1 : Nat)) (0 : Nat) (xs.length + (1 : Nat)) (List.length (xs ++ ([(nth f1.1 i (dflt tySwitch)).1] : List Str)))) <|
 .obl ((xs.length + (1 : Nat)) = (List.length (xs ++ ([(nth f1.1 i (dflt tySwitch)).1] : List Str)))) <|
 .ret (.inl ((w64 (i + 1)),(xs ++ ([(nth f1.1 i (dflt tySwitch)).1] : List Str)))))
  (.obl (curOk xs.length (0 : Nat) xs.length xs.length) <|
 .obl (xs.length = xs.length) <|
 .ret (.inr xs))
def ref7_guards_L0 (f1 : Form) (s : (Int × (List Str))) : T ((List Str)) := T.loop (ref7_guards_R0 f1) s
def ref7_guards_R1 (f2 : Form) : (Int × (List Str)) → T ((Int × (List Str)) ⊕ ((List Str) ⊕ (Str × (List Str))))
 | (i1,xs2) =>
 .ite (decide (i1 < (Nat.cast f2.2.2.1.length : Int)))
  (T.bind (.obl (idxOk i1 f2.2.2.1.length) <|
 .ite (!(strEq (nth f2.2.2.1 i1 (dflt tyPage)).2.1 ([] : Str)))
  (.obl (idxOk i1 f2.2.2.1.length) <|
 .obl (xs2.length = xs2.length) <|
 T.bind (ref5_Has (List.drop (0 : Nat) (List.take ((0 : Nat) + xs2.length) xs2)) (nth f2.2.2.1 i1 (dflt tyPage)).2.1) fun r =>
 .obl (curOk xs2.length (0 : Nat) xs2.length xs2.length) <|
 .obl (xs2.length = xs2.length) <|
 .ret ((!r),xs2))
  (.obl (curOk xs2.length (0 : Nat) xs2.length xs2.length) <|
 .obl (xs2.length = xs2.length) <|
 .ret (false,xs2)) : T ((Bool × (List Str)))) fun (x,xs3) =>
 .ite x
  (.obl (idxOk i1 f2.2.2.1.length) <|
 .obl (xs3.length = xs3.length) <|
 .ret (.inr (.inr ((nth f2.2.2.1 i1 (dflt tyPage)).2.1,xs3))))
  (.obl (curOk xs3.length (0 : Nat) xs3.length xs3.length) <|
 .obl (xs3.length = xs3.length) <|
 .ret (.inl ((w64 (i1 + 1)),xs3))))
  (.obl (curOk xs2.length (0 : Nat) xs2.length xs2.length) <|
 .obl (xs2.length = xs2.length) <|
 .ret (.inr (.inl xs2)))
def ref7_guards_L1 (f2 : Form) (s : (Int × (List Str))) : T ((List Str) ⊕ (Str × (List Str))) := T.loop (ref7_guards_R1 f2) s
def ref7_guards_R2 (f3 : Form) : (Int × (List Str)) → T ((Int × (List Str)) ⊕ ((List Str) ⊕ (Str × (List Str))))
 | (i2,xs6) =>
 .ite (decide (i2 < (Nat.cast f3.2.2.2.2.1.length : Int)))
  (T.bind (.obl (idxOk i2 f3.2.2.2.2.1.length) <|
 .ite (!(strEq (nth f3.2.2.2.2.1 i2 (dflt tyRule)).2.2.1 ([] : Str)))
  (.obl (idxOk i2 f3.2.2.2.2.1.length) <|
 .obl (xs6.length = xs6.length) <|
 T.bind (ref5_Has (List.drop (0 : Nat) (List.take ((0 : Nat) + xs6.length) xs6)) (nth f3.2.2.2.2.1 i2 (dflt tyRule)).2.2.1) fun r1 =>
 .obl (curOk xs6.length (0 : Nat) xs6.length xs6.length) <|
 .obl (xs6.length = xs6.length) <|
 .ret ((!r1),xs6))
  (.obl (curOk xs6.length (0 : Nat) xs6.length xs6.length) <|
 .obl (xs6.length = xs6.length) <|
 .ret (false,xs6)) : T ((Bool × (List Str)))) fun (x2,xs7) =>
 .ite x2
  (.obl (idxOk i2 f3.2.2.2.2.1.length) <|
 .obl (xs7.length = xs7.length) <|
 .ret (.inr (.inr ((nth f3.2.2.2.2.1 i2 (dflt tyRule)).2.2.1,xs7))))
  (.obl (curOk xs7.length (0 : Nat) xs7.length xs7.length) <|
 .obl (xs7.length = xs7.length) <|
 .ret (.inl ((w64 (i2 + 1)),xs7))))
  (.obl (xs6.length = xs6.length) <|
 .ret (.inr (.inl xs6)))
def ref7_guards_L2 (f3 : Form) (s : (Int × (List Str))) : T ((List Str) ⊕ (Str × (List Str))) := T.loop (ref7_guards_R2 f3) s
def ref7_guards (f : Form) : T Str :=
 .obl (curOk (0 : Nat) (0 : Nat) (0 : Nat) (0 : Nat)) <|
 .obl ((0 : Nat) = (0 : Nat)) <|
 T.bind (ref7_guards_L0 f ((0 : Int),([] : List Str))) fun xs1 =>
 .obl (curOk xs1.length (0 : Nat) xs1.length xs1.length) <|
 .obl (xs1.length = xs1.length) <|
 T.bind (ref7_guards_L1 f ((0 : Int),xs1)) <|
 Sum.elim (fun xs4 =>
 .obl (curOk xs4.length (0 : Nat) xs4.length xs4.length) <|
 .obl (xs4.length = xs4.length) <|
 T.bind (ref7_guards_L2 f ((0 : Int),xs4)) <|
 Sum.elim (fun xs8 =>
 .ret ([] : Str))
  (fun (x3,xs9) =>
 .ret x3))
  (fun (x1,xs5) =>
 .ret x1)
def ref7_exprs_R0 (f1 : Form) : (Int × (List AM.Expr)) → T ((Int × (List AM.Expr)) ⊕ ((List AM.Expr)))
 | (i,xs) =>
 .ite (decide (i < (Nat.cast f1.2.2.2.2.2.1.length : Int)))
  (.obl (idxOk i f1.2.2.2.2.2.1.length) <|
 .obl (idxOk i f1.2.2.2.2.2.1.length) <|
 .obl (appOk xs.length xs.length (0 : Nat) xs.length xs.length (2 : Nat) (104 : Nat)) <|
 .obl (curOk (xs.length + (2 : Nat)) (0 : Nat) (xs.length + (2 : Nat)) (List.length (xs ++ ([(nth f1.2.2.2.2.2.1 i (dflt tyCheck)).2.2.2.1,(nth f1.2.2.2.2.2.1 i (dflt tyCheck)).2.2.2.2.1] : List AM.Expr)))) <|
 .obl ((xs.length + (2 : Nat)) = (List.length (xs ++ ([(nth f1.2.2.2.2.2.1 i (dflt tyCheck)).2.2.2.1,(nth f1.2.2.2.2.2.1 i (dflt tyCheck)).2.2.2.2.1] : List AM.Expr)))) <|
 .ret (.inl ((w64 (i + 1)),(xs ++ ([(nth f1.2.2.2.2.2.1 i (dflt tyCheck)).2.2.2.1,(nth f1.2.2.2.2.2.1 i (dflt tyCheck)).2.2.2.2.1] : List AM.Expr)))))
  (.obl (curOk xs.length (0 : Nat) xs.length xs.length) <|
 .obl (xs.length = xs.length) <|
 .ret (.inr xs))
def ref7_exprs_L0 (f1 : Form) (s : (Int × (List AM.Expr))) : T ((List AM.Expr)) := T.loop (ref7_exprs_R0 f1) s
def ref7_exprs_R1 (f2 : Form) : (Int × (List AM.Expr)) → T ((Int × (List AM.Expr)) ⊕ ((List AM.Expr)))
 | (i1,xs2) =>
 .ite (decide (i1 < (Nat.cast f2.2.2.2.2.1.length : Int)))
  (.obl (idxOk i1 f2.2.2.2.2.1.length) <|
 .obl (idxOk i1 f2.2.2.2.2.1.length) <|
 .obl (appOk xs2.length xs2.length (0 : Nat) xs2.length xs2.length (2 : Nat) (104 : Nat)) <|
 .obl (curOk (xs2.length + (2 : Nat)) (0 : Nat) (xs2.length + (2 : Nat)) (List.length (xs2 ++ ([(nth f2.2.2.2.2.1 i1 (dflt tyRule)).2.2.2.1,(nth f2.2.2.2.2.1 i1 (dflt tyRule)).2.2.2.2.1] : List AM.Expr)))) <|
 .obl ((xs2.length + (2 : Nat)) = (List.length (xs2 ++ ([(nth f2.2.2.2.2.1 i1 (dflt tyRule)).2.2.2.1,(nth f2.2.2.2.2.1 i1 (dflt tyRule)).2.2.2.2.1] : List AM.Expr)))) <|
 .ret (.inl ((w64 (i1 + 1)),(xs2 ++ ([(nth f2.2.2.2.2.1 i1 (dflt tyRule)).2.2.2.1,(nth f2.2.2.2.2.1 i1 (dflt tyRule)).2.2.2.2.1] : List AM.Expr)))))
  (.obl (curOk xs2.length (0 : Nat) xs2.length xs2.length) <|
 .obl (xs2.length = xs2.length) <|
 .ret (.inr xs2))
def ref7_exprs_L1 (f2 : Form) (s : (Int × (List AM.Expr))) : T ((List AM.Expr)) := T.loop (ref7_exprs_R1 f2) s
def ref7_exprs (f : Form) : T (List AM.Expr) :=
 .obl (curOk (0 : Nat) (0 : Nat) (0 : Nat) (0 : Nat)) <|
 .obl ((0 : Nat) = (0 : Nat)) <|
 T.bind (ref7_exprs_L0 f ((0 : Int),([] : List AM.Expr))) fun xs1 =>
 .obl (curOk xs1.length (0 : Nat) xs1.length xs1.length) <|
 .obl (xs1.length = xs1.length) <|
 T.bind (ref7_exprs_L1 f ((0 : Int),xs1)) fun xs3 =>
 .obl (xs3.length = xs3.length) <|
 .ret (List.drop (0 : Nat) (List.take ((0 : Nat) + xs3.length) xs3))
end Go.AM.Lf
