/-
  The program's functions as trees in plain Lean, part 0: printed by a program of ours.
-/
import Derived.Test.YtehllfdnkcoehaaAmA
set_option linter.unusedVariables false
namespace Go.AM.Lf
abbrev tyerrors_errorString : Ty := (.cons .str .nil)
abbrev errors_errorString := den tyerrors_errorString
abbrev tyruntime_errorAddressString : Ty := (.cons .str (.cons (.int .u64) .nil))
abbrev runtime_errorAddressString := den tyruntime_errorAddressString
abbrev tySwitch : Ty := (.cons .str (.cons .bool .nil))
abbrev Switch := den tySwitch
abbrev tyPage : Ty := (.cons .str tyerrors_errorString)
abbrev Page := den tyPage
abbrev tyruntime_boundsError : Ty := (.cons (.int .i64) (.cons (.int .i64) (.cons .bool (.cons (.int .u8) .nil))))
abbrev runtime_boundsError := den tyruntime_boundsError
abbrev tyRat : Ty := (.cons .bool (.cons (.sl (.int .u32)) (.cons (.sl (.int .u32)) .nil)))
abbrev Rat := den tyRat
abbrev tyField : Ty := (.cons .str (.cons (.int .i64) (.cons .bool (.cons (.int .i64) .nil))))
abbrev Field := den tyField
abbrev tyRule : Ty := (.cons .str (.cons (.int .i64) (.cons .str (.cons .expr (.cons .expr .nil)))))
abbrev Rule := den tyRule
abbrev tyCheck : Ty := (.cons .str (.cons (.int .i64) (.cons (.int .i64) (.cons .expr (.cons .expr .nil)))))
abbrev Check := den tyCheck
abbrev tyParam : Ty := (.cons .str (.cons tyRat .nil))
abbrev Param := den tyParam
abbrev tydoc_Pin : Ty := (.cons .bool (.cons .bool (.cons tyRat .nil)))
abbrev doc_Pin := den tydoc_Pin
abbrev tyaff_Env : Ty := (.cons (.sl .str) (.cons (.sl .str) (.cons (.sl tyRat) .nil)))
abbrev aff_Env := den tyaff_Env
abbrev tyForm : Ty := (.cons (.sl tySwitch) (.cons (.sl tyParam) (.cons (.sl tyPage) (.cons (.sl tyField) (.cons (.sl tyRule) (.cons (.sl tyCheck) .nil))))))
abbrev Form := den tyForm
abbrev tydoc_Doc : Ty := (.cons (.sl tyRat) (.cons (.sl .bool) (.cons (.sl tyRat) (.cons (.sl (.int .i64)) (.cons (.sl tydoc_Pin) (.cons (.sl .bool) .nil))))))
abbrev doc_Doc := den tydoc_Doc
/-- pantograph/pantographlaw21.weight -/
noncomputable def law21_weight_R0 (self_law21_weight : AM.Expr → Int → T Int) (e1 : AM.Expr) : (Int × Int) → T ((Int × Int) ⊕ (Int))
  | (left1, i) =>
    .ite ((decide (i < (Nat.cast (List.length (Expr.kids e1)) : Int))) && (decide ((0 : Int) ≤ left1)))
      (.obl (idxOk i (List.length (Expr.kids e1))) <|
        T.bind (self_law21_weight (nth (Expr.kids e1) i (dflt .expr)) left1) fun left2 =>
        .ret (.inl (left2, (w64 (i + (1 : Int))))))
      (.ret (.inr left1))
noncomputable def law21_weight_L0 (self_law21_weight : AM.Expr → Int → T Int) (e1 : AM.Expr) (s : (Int × Int)) : T (Int) := T.loop (law21_weight_R0 self_law21_weight e1) s
noncomputable def law21_weight_B (self_law21_weight : AM.Expr → Int → T Int) (e : AM.Expr) (left : Int) : T Int :=
  T.bind (law21_weight_L0 self_law21_weight e ((w64 ((w64 ((w64 ((w64 (left - (3 : Int))) - (Nat.cast (List.length (Expr.name e)) : Int))) - (w64 ((8 : Int) * (Nat.cast (List.length (Expr.num e).2.1) : Int))))) - (w64 ((8 : Int) * (Nat.cast (List.length (Expr.num e).2.2.1) : Int))))), (0 : Int))) fun left3 =>
  .ret left3
noncomputable def law21_weight (e : AM.Expr) (left : Int) : T Int := T.fix (fun F x => law21_weight_B (fun y0 y1 => F (y0, y1)) x.1 x.2) (e, left)
/-- pantograph/pantographlaw21.heavy -/
noncomputable def law21_heavy_R0 (f1 : Form) : (Int × Int) → T ((Int × Int) ⊕ (Int))
  | (n, i) =>
    .ite ((decide (i < (Nat.cast (List.length f1.2.1) : Int))) && (decide ((0 : Int) ≤ n)))
      (.obl (idxOk i (List.length f1.2.1)) <|
        .obl (idxOk i (List.length f1.2.1)) <|
        .obl (idxOk i (List.length f1.2.1)) <|
        .ret (.inl ((w64 ((w64 ((w64 (n - (w64 ((8 : Int) * (Nat.cast (List.length (nth f1.2.1 i (dflt tyParam)).2.1.2.1) : Int))))) - (w64 ((8 : Int) * (Nat.cast (List.length (nth f1.2.1 i (dflt tyParam)).2.1.2.2.1) : Int))))) - (Nat.cast (List.length (nth f1.2.1 i (dflt tyParam)).1) : Int))), (w64 (i + (1 : Int))))))
      (.ret (.inr n))
noncomputable def law21_heavy_L0 (f1 : Form) (s : (Int × Int)) : T (Int) := T.loop (law21_heavy_R0 f1) s
noncomputable def law21_heavy_R1 (f2 : Form) : (Int × Int) → T ((Int × Int) ⊕ (Int))
  | (n2, i1) =>
    .ite ((decide (i1 < (Nat.cast (List.length f2.1) : Int))) && (decide ((0 : Int) ≤ n2)))
      (.obl (idxOk i1 (List.length f2.1)) <|
        .ret (.inl ((w64 (n2 - (Nat.cast (List.length (nth f2.1 i1 (dflt tySwitch)).1) : Int))), (w64 (i1 + (1 : Int))))))
      (.ret (.inr n2))
noncomputable def law21_heavy_L1 (f2 : Form) (s : (Int × Int)) : T (Int) := T.loop (law21_heavy_R1 f2) s
noncomputable def law21_heavy_R2 (f3 : Form) : (Int × Int) → T ((Int × Int) ⊕ (Int))
  | (n4, i2) =>
    .ite ((decide (i2 < (Nat.cast (List.length f3.2.2.1) : Int))) && (decide ((0 : Int) ≤ n4)))
      (.obl (idxOk i2 (List.length f3.2.2.1)) <|
        .obl (idxOk i2 (List.length f3.2.2.1)) <|
        .ret (.inl ((w64 ((w64 (n4 - (Nat.cast (List.length (nth f3.2.2.1 i2 (dflt tyPage)).1) : Int))) - (Nat.cast (List.length (nth f3.2.2.1 i2 (dflt tyPage)).2.1) : Int))), (w64 (i2 + (1 : Int))))))
      (.ret (.inr n4))
noncomputable def law21_heavy_L2 (f3 : Form) (s : (Int × Int)) : T (Int) := T.loop (law21_heavy_R2 f3) s
noncomputable def law21_heavy_R3 (f4 : Form) : (Int × Int) → T ((Int × Int) ⊕ (Int))
  | (n6, i3) =>
    .ite ((decide (i3 < (Nat.cast (List.length f4.2.2.2.1) : Int))) && (decide ((0 : Int) ≤ n6)))
      (.obl (idxOk i3 (List.length f4.2.2.2.1)) <|
        .ret (.inl ((w64 (n6 - (Nat.cast (List.length (nth f4.2.2.2.1 i3 (dflt tyField)).1) : Int))), (w64 (i3 + (1 : Int))))))
      (.ret (.inr n6))
noncomputable def law21_heavy_L3 (f4 : Form) (s : (Int × Int)) : T (Int) := T.loop (law21_heavy_R3 f4) s
noncomputable def law21_heavy_R4 (f5 : Form) : (Int × Int) → T ((Int × Int) ⊕ (Int))
  | (n8, i4) =>
    .ite ((decide (i4 < (Nat.cast (List.length f5.2.2.2.2.1) : Int))) && (decide ((0 : Int) ≤ n8)))
      (.obl (idxOk i4 (List.length f5.2.2.2.2.1)) <|
        .obl (idxOk i4 (List.length f5.2.2.2.2.1)) <|
        .obl (idxOk i4 (List.length f5.2.2.2.2.1)) <|
        .obl (idxOk i4 (List.length f5.2.2.2.2.1)) <|
        T.bind (law21_weight (nth f5.2.2.2.2.1 i4 (dflt tyRule)).2.2.2.1 (w64 ((w64 (n8 - (Nat.cast (List.length (nth f5.2.2.2.2.1 i4 (dflt tyRule)).1) : Int))) - (Nat.cast (List.length (nth f5.2.2.2.2.1 i4 (dflt tyRule)).2.2.1) : Int)))) fun r =>
        T.bind (law21_weight (nth f5.2.2.2.2.1 i4 (dflt tyRule)).2.2.2.2.1 r) fun n9 =>
        .ret (.inl (n9, (w64 (i4 + (1 : Int))))))
      (.ret (.inr n8))
noncomputable def law21_heavy_L4 (f5 : Form) (s : (Int × Int)) : T (Int) := T.loop (law21_heavy_R4 f5) s
noncomputable def law21_heavy_R5 (f6 : Form) : (Int × Int) → T ((Int × Int) ⊕ (Int))
  | (n11, i5) =>
    .ite ((decide (i5 < (Nat.cast (List.length f6.2.2.2.2.2.1) : Int))) && (decide ((0 : Int) ≤ n11)))
      (.obl (idxOk i5 (List.length f6.2.2.2.2.2.1)) <|
        .obl (idxOk i5 (List.length f6.2.2.2.2.2.1)) <|
        .obl (idxOk i5 (List.length f6.2.2.2.2.2.1)) <|
        T.bind (law21_weight (nth f6.2.2.2.2.2.1 i5 (dflt tyCheck)).2.2.2.1 (w64 (n11 - (Nat.cast (List.length (nth f6.2.2.2.2.2.1 i5 (dflt tyCheck)).1) : Int)))) fun r1 =>
        T.bind (law21_weight (nth f6.2.2.2.2.2.1 i5 (dflt tyCheck)).2.2.2.2.1 r1) fun n12 =>
        .ret (.inl (n12, (w64 (i5 + (1 : Int))))))
      (.ret (.inr n11))
noncomputable def law21_heavy_L5 (f6 : Form) (s : (Int × Int)) : T (Int) := T.loop (law21_heavy_R5 f6) s
noncomputable def law21_heavy (f : Form) : T Bool :=
  T.bind (law21_heavy_L0 f ((w64 ((600 : Int) - (w64 ((20 : Int) * (w64 ((w64 ((w64 ((w64 ((w64 ((Nat.cast (List.length f.1) : Int) + (Nat.cast (List.length f.2.1) : Int))) + (Nat.cast (List.length f.2.2.1) : Int))) + (Nat.cast (List.length f.2.2.2.1) : Int))) + (Nat.cast (List.length f.2.2.2.2.1) : Int))) + (Nat.cast (List.length f.2.2.2.2.2.1) : Int))))))), (0 : Int))) fun n1 =>
  T.bind (law21_heavy_L1 f (n1, (0 : Int))) fun n3 =>
  T.bind (law21_heavy_L2 f (n3, (0 : Int))) fun n5 =>
  T.bind (law21_heavy_L3 f (n5, (0 : Int))) fun n7 =>
  T.bind (law21_heavy_L4 f (n7, (0 : Int))) fun n10 =>
  T.bind (law21_heavy_L5 f (n10, (0 : Int))) fun n13 =>
  .ret (decide (n13 < (0 : Int)))
/-- pantograph/nat.Is -/
noncomputable def nat_Is (a : (List Int)) : T Bool :=
  .obl ((((Nat.cast (List.length a) : Int) == (0 : Int)) = false) → (idxOk (w64 ((Nat.cast (List.length a) : Int) - (1 : Int))) (List.length a))) <|
  .ret (((Nat.cast (List.length a) : Int) == (0 : Int)) || ((nth a (w64 ((Nat.cast (List.length a) : Int) - (1 : Int))) (dflt (.int .u32))) != (0 : Int)))
/-- pantograph/nat.trim -/
noncomputable def nat_trim_R0  : (List Int) → T ((List Int) ⊕ ((List Int)))
  | a1 =>
    T.bind (nat_Is a1) fun r =>
    .ite (!r)
      (.obl (slOk (0 : Int) (w64 ((Nat.cast (List.length a1) : Int) - (1 : Int))) (List.length a1)) <|
        .ret (.inl (cutL (e := (.int .u32)) (0 : Int) (w64 ((Nat.cast (List.length a1) : Int) - (1 : Int))) a1)))
      (.ret (.inr a1))
noncomputable def nat_trim_L0  (s : (List Int)) : T ((List Int)) := T.loop (nat_trim_R0 ) s
noncomputable def nat_trim (a : (List Int)) : T (List Int) :=
  T.bind (nat_trim_L0  a) fun a2 =>
  .ret a2
/-- slices.Clone[[]uint32,uint32] -/
noncomputable def slices_Clone_sl_uint32 (s : (List Int)) : T (List Int) :=
  .obl (s = [] → ∀ r, T.leads (.obl (appOk (0 : Nat) (0 : Nat) (0 : Nat) (0 : Nat) (0 : Nat) (List.length s) (4 : Nat)) <|
      .obl (((0 : Nat) + (List.length s)) = ((0 : Nat) + (List.length s))) <|
      .ret (List.drop (0 : Nat) (List.take ((0 : Nat) + ((0 : Nat) + (List.length s))) s)) : T _) r → T.leads (.ret ([] : List Int) : T _) r) <|
  .obl (appOk (0 : Nat) (0 : Nat) (0 : Nat) (0 : Nat) (0 : Nat) (List.length s) (4 : Nat)) <|
  .obl (((0 : Nat) + (List.length s)) = ((0 : Nat) + (List.length s))) <|
  .ret (List.drop (0 : Nat) (List.take ((0 : Nat) + ((0 : Nat) + (List.length s))) s))
/-- pantograph/nat.Trim -/
noncomputable def nat_Trim (a : (List Int)) : T (List Int) :=
  T.bind (nat_trim a) fun r =>
  T.bind (slices_Clone_sl_uint32 r) fun r1 =>
  .ret r1
/-- pantograph/nat.Of -/
noncomputable def nat_Of (n : Int) : T (List Int) :=
  .obl ((0 : Int) ≤ (32 : Int)) <|
  T.bind (nat_trim ([(wu32 n), (wu32 (shrI .u64 n (32 : Int)))] : List Int)) fun r =>
  .ret r
/-- pantograph/nat.Cmp -/
noncomputable def nat_Cmp_R0 (a2 : (List Int)) (b2 : (List Int)) : Int → T (Int ⊕ (Unit ⊕ Int))
  | i =>
    .ite (decide ((0 : Int) ≤ i))
      (.obl (idxOk i (List.length a2)) <|
        .obl (idxOk i (List.length b2)) <|
        .ite ((nth a2 i (dflt (.int .u32))) != (nth b2 i (dflt (.int .u32))))
          (.obl (idxOk i (List.length a2)) <|
            .obl (idxOk i (List.length b2)) <|
            .ite (decide ((nth a2 i (dflt (.int .u32))) < (nth b2 i (dflt (.int .u32)))))
              (.ret (.inr (.inr (-1 : Int))))
              (.ret (.inr (.inr (1 : Int)))))
          (.ret (.inl (w64 (i - (1 : Int))))))
      (.ret (.inr (.inl ())))
noncomputable def nat_Cmp_L0 (a2 : (List Int)) (b2 : (List Int)) (s : Int) : T (Unit ⊕ Int) := T.loop (nat_Cmp_R0 a2 b2) s
noncomputable def nat_Cmp (a : (List Int)) (b : (List Int)) : T Int :=
  T.bind (nat_trim a) fun a1 =>
  T.bind (nat_trim b) fun b1 =>
  .ite ((Nat.cast (List.length a1) : Int) != (Nat.cast (List.length b1) : Int))
    (.ite (decide ((Nat.cast (List.length a1) : Int) < (Nat.cast (List.length b1) : Int)))
        (.ret (-1 : Int))
        (.ret (1 : Int)))
    (T.bind (nat_Cmp_L0 a1 b1 (w64 ((Nat.cast (List.length a1) : Int) - (1 : Int)))) <|
        Sum.elim (fun _ =>
          .ret (0 : Int))
        (fun x =>
          .ret x))
/-- math/bits.Div32 -/
noncomputable def math_bits_Div32 (hi : Int) (lo : Int) (y : Int) : T (Int × Int) :=
  .ite ((y != (0 : Int)) && (decide (y ≤ hi)))
    (.fail)
    (.obl ((0 : Int) ≤ (32 : Int)) <|
      .obl ((wu64 y) ≠ (0 : Int)) <|
      .obl ((wu64 y) ≠ (0 : Int)) <|
      .ret ((wu32 (wu64 (Int.tdiv (orI .u64 (shlI .u64 (wu64 hi) (32 : Int)) (wu64 lo)) (wu64 y)))), (wu32 (Int.tmod (orI .u64 (shlI .u64 (wu64 hi) (32 : Int)) (wu64 lo)) (wu64 y)))))
/-- pantograph/nat.small -/
noncomputable def nat_small_R0 (a1 : (List Int)) (b1 : Int) : (Int × Int × (List Int)) → T ((Int × Int × (List Int)) ⊕ ((Int × (List Int))))
  | (rest, i, xs) =>
    .ite (decide ((0 : Int) ≤ i))
      (.obl (idxOk i (List.length a1)) <|
        T.bind (math_bits_Div32 rest (nth a1 i (dflt (.int .u32))) b1) fun (r, rest1) =>
        .obl (idxOk i (List.length xs)) <|
        .obl (eOk (List.length xs) (List.length xs) ((0 : Nat) + (Int.toNat i)) (List.length xs)) <|
        .obl (curOk (List.length xs) (0 : Nat) (List.length xs) (List.length (List.set xs ((0 : Nat) + (Int.toNat i)) r))) <|
        .obl ((List.length xs) = (List.length (List.set xs ((0 : Nat) + (Int.toNat i)) r))) <|
        .ret (.inl (rest1, ((w64 (i - (1 : Int))), (List.set xs ((0 : Nat) + (Int.toNat i)) r)))))
      (.obl (curOk (List.length xs) (0 : Nat) (List.length xs) (List.length xs)) <|
        .obl ((List.length xs) = (List.length xs)) <|
        .ret (.inr (rest, xs)))
noncomputable def nat_small_L0 (a1 : (List Int)) (b1 : Int) (s : (Int × Int × (List Int))) : T ((Int × (List Int))) := T.loop (nat_small_R0 a1 b1) s
noncomputable def nat_small (a : (List Int)) (b : Int) : T ((List Int) × Int) :=
  .obl (mkOk (Nat.cast (List.length a) : Int) (Nat.cast (List.length a) : Int) (4 : Nat)) <|
  .obl (curOk (Int.toNat (Nat.cast (List.length a) : Int)) (0 : Nat) (Int.toNat (Nat.cast (List.length a) : Int)) (List.length (List.replicate (Int.toNat (Nat.cast (List.length a) : Int)) (0 : Int)))) <|
  .obl ((Int.toNat (Nat.cast (List.length a) : Int)) = (List.length (List.replicate (Int.toNat (Nat.cast (List.length a) : Int)) (0 : Int)))) <|
  T.bind (nat_small_L0 a b ((0 : Int), ((w64 ((Nat.cast (List.length a) : Int) - (1 : Int))), (List.replicate (Int.toNat (Nat.cast (List.length a) : Int)) (0 : Int))))) fun (rest2, xs1) =>
  .obl ((List.length xs1) = (List.length xs1)) <|
  T.bind (nat_trim (List.drop (0 : Nat) (List.take ((0 : Nat) + (List.length xs1)) xs1))) fun r1 =>
  .ret (r1, rest2)
/-- math/bits.Len32 -/
noncomputable def math_bits_Len32 (x : Int) : T Int :=
  .obl (((decide ((65536 : Int) ≤ x)) = true) → ((0 : Int) ≤ (16 : Int))) <|
  .obl (((decide ((256 : Int) ≤ (bif (decide ((65536 : Int) ≤ x)) then (shrI .u32 x (16 : Int)) else x))) = true) → ((0 : Int) ≤ (8 : Int))) <|
  .obl (idxOk (wu8 (bif (decide ((256 : Int) ≤ (bif (decide ((65536 : Int) ≤ x)) then (shrI .u32 x (16 : Int)) else x))) then (shrI .u32 (bif (decide ((65536 : Int) ≤ x)) then (shrI .u32 x (16 : Int)) else x) (8 : Int)) else (bif (decide ((65536 : Int) ≤ x)) then (shrI .u32 x (16 : Int)) else x))) (List.length ([0, 1, 2, 2, 3, 3, 3, 3, 4, 4, 4, 4, 4, 4, 4, 4, 5, 5, 5, 5, 5, 5, 5, 5, 5, 5, 5, 5, 5, 5, 5, 5, 6, 6, 6, 6, 6, 6, 6, 6, 6, 6, 6, 6, 6, 6, 6, 6, 6, 6, 6, 6, 6, 6, 6, 6, 6, 6, 6, 6, 6, 6, 6, 6, 7, 7, 7, 7, 7, 7, 7, 7, 7, 7, 7, 7, 7, 7, 7, 7, 7, 7, 7, 7, 7, 7, 7, 7, 7, 7, 7, 7, 7, 7, 7, 7, 7, 7, 7, 7, 7, 7, 7, 7, 7, 7, 7, 7, 7, 7, 7, 7, 7, 7, 7, 7, 7, 7, 7, 7, 7, 7, 7, 7, 7, 7, 7, 7, 8, 8, 8, 8, 8, 8, 8, 8, 8, 8, 8, 8, 8, 8, 8, 8, 8, 8, 8, 8, 8, 8, 8, 8, 8, 8, 8, 8, 8, 8, 8, 8, 8, 8, 8, 8, 8, 8, 8, 8, 8, 8, 8, 8, 8, 8, 8, 8, 8, 8, 8, 8, 8, 8, 8, 8, 8, 8, 8, 8, 8, 8, 8, 8, 8, 8, 8, 8, 8, 8, 8, 8, 8, 8, 8, 8, 8, 8, 8, 8, 8, 8, 8, 8, 8, 8, 8, 8, 8, 8, 8, 8, 8, 8, 8, 8, 8, 8, 8, 8, 8, 8, 8, 8, 8, 8, 8, 8, 8, 8, 8, 8, 8, 8, 8, 8, 8, 8, 8, 8, 8, 8, 8, 8, 8, 8, 8, 8] : Str))) <|
  .ret (w64 ((bif (decide ((256 : Int) ≤ (bif (decide ((65536 : Int) ≤ x)) then (shrI .u32 x (16 : Int)) else x))) then (w64 ((bif (decide ((65536 : Int) ≤ x)) then (16 : Int) else (0 : Int)) + (8 : Int))) else (bif (decide ((65536 : Int) ≤ x)) then (16 : Int) else (0 : Int))) + (w64 (byteAt ([0, 1, 2, 2, 3, 3, 3, 3, 4, 4, 4, 4, 4, 4, 4, 4, 5, 5, 5, 5, 5, 5, 5, 5, 5, 5, 5, 5, 5, 5, 5, 5, 6, 6, 6, 6, 6, 6, 6, 6, 6, 6, 6, 6, 6, 6, 6, 6, 6, 6, 6, 6, 6, 6, 6, 6, 6, 6, 6, 6, 6, 6, 6, 6, 7, 7, 7, 7, 7, 7, 7, 7, 7, 7, 7, 7, 7, 7, 7, 7, 7, 7, 7, 7, 7, 7, 7, 7, 7, 7, 7, 7, 7, 7, 7, 7, 7, 7, 7, 7, 7, 7, 7, 7, 7, 7, 7, 7, 7, 7, 7, 7, 7, 7, 7, 7, 7, 7, 7, 7, 7, 7, 7, 7, 7, 7, 7, 7, 8, 8, 8, 8, 8, 8, 8, 8, 8, 8, 8, 8, 8, 8, 8, 8, 8, 8, 8, 8, 8, 8, 8, 8, 8, 8, 8, 8, 8, 8, 8, 8, 8, 8, 8, 8, 8, 8, 8, 8, 8, 8, 8, 8, 8, 8, 8, 8, 8, 8, 8, 8, 8, 8, 8, 8, 8, 8, 8, 8, 8, 8, 8, 8, 8, 8, 8, 8, 8, 8, 8, 8, 8, 8, 8, 8, 8, 8, 8, 8, 8, 8, 8, 8, 8, 8, 8, 8, 8, 8, 8, 8, 8, 8, 8, 8, 8, 8, 8, 8, 8, 8, 8, 8, 8, 8, 8, 8, 8, 8, 8, 8, 8, 8, 8, 8, 8, 8, 8, 8, 8, 8, 8, 8, 8, 8, 8, 8] : Str) (wu8 (bif (decide ((256 : Int) ≤ (bif (decide ((65536 : Int) ≤ x)) then (shrI .u32 x (16 : Int)) else x))) then (shrI .u32 (bif (decide ((65536 : Int) ≤ x)) then (shrI .u32 x (16 : Int)) else x) (8 : Int)) else (bif (decide ((65536 : Int) ≤ x)) then (shrI .u32 x (16 : Int)) else x)))))))
/-- math/bits.LeadingZeros32 -/
noncomputable def math_bits_LeadingZeros32 (x : Int) : T Int :=
  T.bind (math_bits_Len32 x) fun r =>
  .ret (w64 ((32 : Int) - r))
/-- pantograph/nat.left -/
noncomputable def nat_left_S_R0 (by_1 : Int) (n1 : Int) (x : (List Int)) (x1 : Int) : (Int × (List Int)) → T ((Int × (List Int)) ⊕ ((List Int)))
  | (x2, xs) =>
    .ite (decide (x2 < x1))
      (.obl (idxOk x2 (List.length x)) <|
        .obl ((0 : Int) ≤ by_1) <|
        .obl (idxOk x2 (List.length xs)) <|
        .obl (eOk (List.length xs) (List.length xs) ((0 : Nat) + (Int.toNat x2)) (List.length xs)) <|
        .obl (idxOk x2 (List.length xs)) <|
        .obl (eOk (List.length xs) (List.length xs) ((0 : Nat) + (Int.toNat x2)) (List.length xs)) <|
        .ite (decide ((w64 (x2 + (1 : Int))) < n1))
          (.obl ((0 : Int) ≤ (32 : Int)) <|
            .obl (idxOk (w64 (x2 + (1 : Int))) (List.length xs)) <|
            .obl (eOk (List.length xs) (List.length xs) ((0 : Nat) + (Int.toNat (w64 (x2 + (1 : Int))))) (List.length (List.set xs ((0 : Nat) + (Int.toNat x2)) (orI .u32 (nthN xs ((0 : Nat) + (Int.toNat x2)) (dflt (.int .u32))) (wu32 (shlI .u64 (wu64 (nth x x2 (dflt (.int .u32)))) by_1)))))) <|
            .obl (curOk (List.length xs) (0 : Nat) (List.length xs) (List.length (List.set (List.set xs ((0 : Nat) + (Int.toNat x2)) (orI .u32 (nthN xs ((0 : Nat) + (Int.toNat x2)) (dflt (.int .u32))) (wu32 (shlI .u64 (wu64 (nth x x2 (dflt (.int .u32)))) by_1)))) ((0 : Nat) + (Int.toNat (w64 (x2 + (1 : Int))))) (wu32 (shrI .u64 (shlI .u64 (wu64 (nth x x2 (dflt (.int .u32)))) by_1) (32 : Int)))))) <|
            .obl ((List.length xs) = (List.length (List.set (List.set xs ((0 : Nat) + (Int.toNat x2)) (orI .u32 (nthN xs ((0 : Nat) + (Int.toNat x2)) (dflt (.int .u32))) (wu32 (shlI .u64 (wu64 (nth x x2 (dflt (.int .u32)))) by_1)))) ((0 : Nat) + (Int.toNat (w64 (x2 + (1 : Int))))) (wu32 (shrI .u64 (shlI .u64 (wu64 (nth x x2 (dflt (.int .u32)))) by_1) (32 : Int)))))) <|
            .ret (.inl ((w64 (x2 + (1 : Int))), (List.set (List.set xs ((0 : Nat) + (Int.toNat x2)) (orI .u32 (nthN xs ((0 : Nat) + (Int.toNat x2)) (dflt (.int .u32))) (wu32 (shlI .u64 (wu64 (nth x x2 (dflt (.int .u32)))) by_1)))) ((0 : Nat) + (Int.toNat (w64 (x2 + (1 : Int))))) (wu32 (shrI .u64 (shlI .u64 (wu64 (nth x x2 (dflt (.int .u32)))) by_1) (32 : Int)))))))
          (.obl (curOk (List.length xs) (0 : Nat) (List.length xs) (List.length (List.set xs ((0 : Nat) + (Int.toNat x2)) (orI .u32 (nthN xs ((0 : Nat) + (Int.toNat x2)) (dflt (.int .u32))) (wu32 (shlI .u64 (wu64 (nth x x2 (dflt (.int .u32)))) by_1)))))) <|
            .obl ((List.length xs) = (List.length (List.set xs ((0 : Nat) + (Int.toNat x2)) (orI .u32 (nthN xs ((0 : Nat) + (Int.toNat x2)) (dflt (.int .u32))) (wu32 (shlI .u64 (wu64 (nth x x2 (dflt (.int .u32)))) by_1)))))) <|
            .ret (.inl ((w64 (x2 + (1 : Int))), (List.set xs ((0 : Nat) + (Int.toNat x2)) (orI .u32 (nthN xs ((0 : Nat) + (Int.toNat x2)) (dflt (.int .u32))) (wu32 (shlI .u64 (wu64 (nth x x2 (dflt (.int .u32)))) by_1))))))))
      (.obl (curOk (List.length xs) (0 : Nat) (List.length xs) (List.length xs)) <|
        .obl ((List.length xs) = (List.length xs)) <|
        .ret (.inr xs))
noncomputable def nat_left_S_L0 (by_1 : Int) (n1 : Int) (x : (List Int)) (x1 : Int) (s : (Int × (List Int))) : T ((List Int)) := T.loop (nat_left_S_R0 by_1 n1 x x1) s
noncomputable def nat_left_S (a : (List Int)) (by_ : Int) (n : Int) : T (List Int) :=
  .obl (mkOk n n (4 : Nat)) <|
  .obl (curOk (Int.toNat n) (0 : Nat) (Int.toNat n) (List.length (List.replicate (Int.toNat n) (0 : Int)))) <|
  .obl ((Int.toNat n) = (List.length (List.replicate (Int.toNat n) (0 : Int)))) <|
  T.bind (nat_left_S_L0 by_ n a (Nat.cast (List.length a) : Int) ((0 : Int), (List.replicate (Int.toNat n) (0 : Int)))) fun xs1 =>
  .obl (curOk (List.length xs1) (0 : Nat) (List.length xs1) (List.length xs1)) <|
  .obl ((List.length xs1) = (List.length xs1)) <|
  .ret xs1
/-- pantograph/nat.guess -/
noncomputable def nat_guess_R0 (low1 : Int) (b11 : Int) (b21 : Int) : (Int × Int) → T ((Int × Int) ⊕ (Int))
  | (q, r) =>
    .obl (((0 : Int) ≤ (32 : Int)) ∧ ((((shrI .u64 q (32 : Int)) != (0 : Int)) = false) → ((0 : Int) ≤ (32 : Int)))) <|
    .ite (((shrI .u64 q (32 : Int)) != (0 : Int)) || (decide ((orI .u64 (shlI .u64 r (32 : Int)) (wu64 low1)) < (wu64 (q * (wu64 b21))))))
      (.obl ((0 : Int) ≤ (32 : Int)) <|
        .ite ((shrI .u64 (wu64 (r + (wu64 b11))) (32 : Int)) != (0 : Int))
          (.ret (.inr (wu64 (q - (1 : Int)))))
          (.ret (.inl ((wu64 (q - (1 : Int))), (wu64 (r + (wu64 b11)))))))
      (.ret (.inr q))
noncomputable def nat_guess_L0 (low1 : Int) (b11 : Int) (b21 : Int) (s : (Int × Int)) : T (Int) := T.loop (nat_guess_R0 low1 b11 b21) s
noncomputable def nat_guess (high : Int) (mid : Int) (low : Int) (b1 : Int) (b2 : Int) : T Int :=
  .obl ((0 : Int) ≤ (32 : Int)) <|
  .obl ((wu64 b1) ≠ (0 : Int)) <|
  .obl ((wu64 b1) ≠ (0 : Int)) <|
  T.bind (nat_guess_L0 low b1 b2 ((wu64 (Int.tdiv (orI .u64 (shlI .u64 (wu64 high) (32 : Int)) (wu64 mid)) (wu64 b1))), (Int.tmod (orI .u64 (shlI .u64 (wu64 high) (32 : Int)) (wu64 mid)) (wu64 b1)))) fun q1 =>
  .ret q1
/-- math/bits.Sub32 -/
noncomputable def math_bits_Sub32 (x : Int) (y : Int) (borrow : Int) : T (Int × Int) :=
  .obl ((0 : Int) ≤ (31 : Int)) <|
  .ret ((wu32 ((wu32 (x - y)) - borrow)), (shrI .u32 (orI .u32 (andI .u32 (xorI .u32 (4294967295 : Int) x) y) (andI .u32 (xorI .u32 (4294967295 : Int) (xorI .u32 x y)) (wu32 ((wu32 (x - y)) - borrow)))) (31 : Int)))
/-- math/bits.Add32 -/
noncomputable def math_bits_Add32 (x : Int) (y : Int) (carry : Int) : T (Int × Int) :=
  .obl ((0 : Int) ≤ (32 : Int)) <|
  .ret ((wu32 (wu64 ((wu64 ((wu64 x) + (wu64 y))) + (wu64 carry)))), (wu32 (shrI .u64 (wu64 ((wu64 ((wu64 x) + (wu64 y))) + (wu64 carry))) (32 : Int))))
/-- pantograph/nat.takes -/
noncomputable def nat_takes_S_R0 (b1 : (List Int)) (q1 : Int) (x : (List Int)) (x1 : Int) : ((Nat × Nat) × Int × Int × Int × (List Int)) → T (((Nat × Nat) × Int × Int × Int × (List Int)) ⊕ (((Nat × Nat) × Int × Int × (List Int))))
  | (u1, carry, borrow, x2, xs) =>
    .ite (decide (x2 < x1))
      (.obl (idxOk x2 (List.length x)) <|
        .obl (idxOk x2 u1.2) <|
        .obl (eOk (List.length xs) (List.length xs) (u1.1 + (Int.toNat x2)) (List.length xs)) <|
        T.bind (math_bits_Sub32 (nthN xs (u1.1 + (Int.toNat x2)) (dflt (.int .u32))) (wu32 (wu64 (carry + (wu64 (q1 * (wu64 (nth x x2 (dflt (.int .u32))))))))) borrow) fun (r, borrow1) =>
        .obl (idxOk x2 u1.2) <|
        .obl (eOk (List.length xs) (List.length xs) (u1.1 + (Int.toNat x2)) (List.length xs)) <|
        .obl ((0 : Int) ≤ (32 : Int)) <|
        .obl ((List.length xs) = (List.length xs)) <|
        .obl ((List.length xs) = (List.length (List.set xs (u1.1 + (Int.toNat x2)) r))) <|
        .ret (.inl (u1, ((shrI .u64 (wu64 (carry + (wu64 (q1 * (wu64 (nth x x2 (dflt (.int .u32)))))))) (32 : Int)), (borrow1, ((w64 (x2 + (1 : Int))), (List.set xs (u1.1 + (Int.toNat x2)) r)))))))
      (.obl ((List.length xs) = (List.length xs)) <|
        .obl ((List.length xs) = (List.length xs)) <|
        .ret (.inr (u1, (carry, (borrow, xs)))))
noncomputable def nat_takes_S_L0 (b1 : (List Int)) (q1 : Int) (x : (List Int)) (x1 : Int) (s : ((Nat × Nat) × Int × Int × Int × (List Int))) : T (((Nat × Nat) × Int × Int × (List Int))) := T.loop (nat_takes_S_R0 b1 q1 x x1) s
noncomputable def nat_takes_S_R1 (b2 : (List Int)) (x3 : (List Int)) (x4 : Int) : ((Nat × Nat) × Int × Int × (List Int)) → T (((Nat × Nat) × Int × Int × (List Int)) ⊕ (((Nat × Nat) × Int × (List Int))))
  | (u3, more, x5, xs2) =>
    .ite (decide (x5 < x4))
      (.obl (idxOk x5 (List.length x3)) <|
        .obl (idxOk x5 u3.2) <|
        .obl (eOk (List.length xs2) (List.length xs2) (u3.1 + (Int.toNat x5)) (List.length xs2)) <|
        T.bind (math_bits_Add32 (nthN xs2 (u3.1 + (Int.toNat x5)) (dflt (.int .u32))) (nth x3 x5 (dflt (.int .u32))) more) fun (r2, more1) =>
        .obl (idxOk x5 u3.2) <|
        .obl (eOk (List.length xs2) (List.length xs2) (u3.1 + (Int.toNat x5)) (List.length xs2)) <|
        .obl ((List.length xs2) = (List.length xs2)) <|
        .obl ((List.length xs2) = (List.length (List.set xs2 (u3.1 + (Int.toNat x5)) r2))) <|
        .ret (.inl (u3, (more1, ((w64 (x5 + (1 : Int))), (List.set xs2 (u3.1 + (Int.toNat x5)) r2))))))
      (.obl ((List.length xs2) = (List.length xs2)) <|
        .obl ((List.length xs2) = (List.length xs2)) <|
        .ret (.inr (u3, (more, xs2))))
noncomputable def nat_takes_S_L1 (b2 : (List Int)) (x3 : (List Int)) (x4 : Int) (s : ((Nat × Nat) × Int × Int × (List Int))) : T (((Nat × Nat) × Int × (List Int))) := T.loop (nat_takes_S_R1 b2 x3 x4) s
noncomputable def nat_takes_S (uw : (Nat × Nat)) (b : (List Int)) (q : Int) (u : (List Int)) : T (Bool × (List Int)) :=
  .obl ((List.length u) = (List.length u)) <|
  .obl ((List.length u) = (List.length u)) <|
  T.bind (nat_takes_S_L0 b q b (Nat.cast (List.length b) : Int) (uw, ((0 : Int), ((0 : Int), ((0 : Int), u))))) fun (u2, carry1, borrow2, xs1) =>
  .obl (idxOk (Nat.cast (List.length b) : Int) u2.2) <|
  .obl (eOk (List.length xs1) (List.length xs1) (u2.1 + (Int.toNat (Nat.cast (List.length b) : Int))) (List.length xs1)) <|
  T.bind (math_bits_Sub32 (nthN xs1 (u2.1 + (Int.toNat (Nat.cast (List.length b) : Int))) (dflt (.int .u32))) (wu32 carry1) borrow2) fun (r1, borrow3) =>
  .obl (idxOk (Nat.cast (List.length b) : Int) u2.2) <|
  .obl (eOk (List.length xs1) (List.length xs1) (u2.1 + (Int.toNat (Nat.cast (List.length b) : Int))) (List.length xs1)) <|
  .ite (borrow3 == (0 : Int))
    (.obl ((List.length xs1) = (List.length (List.set xs1 (u2.1 + (Int.toNat (Nat.cast (List.length b) : Int))) r1))) <|
      .ret (false, (List.set xs1 (u2.1 + (Int.toNat (Nat.cast (List.length b) : Int))) r1)))
    (.obl ((List.length xs1) = (List.length xs1)) <|
      .obl ((List.length xs1) = (List.length (List.set xs1 (u2.1 + (Int.toNat (Nat.cast (List.length b) : Int))) r1))) <|
      T.bind (nat_takes_S_L1 b b (Nat.cast (List.length b) : Int) (u2, ((0 : Int), ((0 : Int), (List.set xs1 (u2.1 + (Int.toNat (Nat.cast (List.length b) : Int))) r1))))) fun (u4, more2, xs3) =>
      .obl (idxOk (Nat.cast (List.length b) : Int) u4.2) <|
      .obl (eOk (List.length xs3) (List.length xs3) (u4.1 + (Int.toNat (Nat.cast (List.length b) : Int))) (List.length xs3)) <|
      .obl (idxOk (Nat.cast (List.length b) : Int) u4.2) <|
      .obl (eOk (List.length xs3) (List.length xs3) (u4.1 + (Int.toNat (Nat.cast (List.length b) : Int))) (List.length xs3)) <|
      .obl ((List.length xs3) = (List.length (List.set xs3 (u4.1 + (Int.toNat (Nat.cast (List.length b) : Int))) (wu32 ((nthN xs3 (u4.1 + (Int.toNat (Nat.cast (List.length b) : Int))) (dflt (.int .u32))) + more2))))) <|
      .ret (true, (List.set xs3 (u4.1 + (Int.toNat (Nat.cast (List.length b) : Int))) (wu32 ((nthN xs3 (u4.1 + (Int.toNat (Nat.cast (List.length b) : Int))) (dflt (.int .u32))) + more2)))))
/-- pantograph/nat.left -/
noncomputable def nat_left_R0 (by_1 : Int) (n1 : Int) (x : (List Int)) (x1 : Int) : (Int × (List Int)) → T ((Int × (List Int)) ⊕ ((List Int)))
  | (x2, xs) =>
    .ite (decide (x2 < x1))
      (.obl (idxOk x2 (List.length x)) <|
        .obl ((0 : Int) ≤ by_1) <|
        .obl (idxOk x2 (List.length xs)) <|
        .obl (eOk (List.length xs) (List.length xs) ((0 : Nat) + (Int.toNat x2)) (List.length xs)) <|
        .obl (idxOk x2 (List.length xs)) <|
        .obl (eOk (List.length xs) (List.length xs) ((0 : Nat) + (Int.toNat x2)) (List.length xs)) <|
        .ite (decide ((w64 (x2 + (1 : Int))) < n1))
          (.obl ((0 : Int) ≤ (32 : Int)) <|
            .obl (idxOk (w64 (x2 + (1 : Int))) (List.length xs)) <|
            .obl (eOk (List.length xs) (List.length xs) ((0 : Nat) + (Int.toNat (w64 (x2 + (1 : Int))))) (List.length (List.set xs ((0 : Nat) + (Int.toNat x2)) (orI .u32 (nthN xs ((0 : Nat) + (Int.toNat x2)) (dflt (.int .u32))) (wu32 (shlI .u64 (wu64 (nth x x2 (dflt (.int .u32)))) by_1)))))) <|
            .obl (curOk (List.length xs) (0 : Nat) (List.length xs) (List.length (List.set (List.set xs ((0 : Nat) + (Int.toNat x2)) (orI .u32 (nthN xs ((0 : Nat) + (Int.toNat x2)) (dflt (.int .u32))) (wu32 (shlI .u64 (wu64 (nth x x2 (dflt (.int .u32)))) by_1)))) ((0 : Nat) + (Int.toNat (w64 (x2 + (1 : Int))))) (wu32 (shrI .u64 (shlI .u64 (wu64 (nth x x2 (dflt (.int .u32)))) by_1) (32 : Int)))))) <|
            .obl ((List.length xs) = (List.length (List.set (List.set xs ((0 : Nat) + (Int.toNat x2)) (orI .u32 (nthN xs ((0 : Nat) + (Int.toNat x2)) (dflt (.int .u32))) (wu32 (shlI .u64 (wu64 (nth x x2 (dflt (.int .u32)))) by_1)))) ((0 : Nat) + (Int.toNat (w64 (x2 + (1 : Int))))) (wu32 (shrI .u64 (shlI .u64 (wu64 (nth x x2 (dflt (.int .u32)))) by_1) (32 : Int)))))) <|
            .ret (.inl ((w64 (x2 + (1 : Int))), (List.set (List.set xs ((0 : Nat) + (Int.toNat x2)) (orI .u32 (nthN xs ((0 : Nat) + (Int.toNat x2)) (dflt (.int .u32))) (wu32 (shlI .u64 (wu64 (nth x x2 (dflt (.int .u32)))) by_1)))) ((0 : Nat) + (Int.toNat (w64 (x2 + (1 : Int))))) (wu32 (shrI .u64 (shlI .u64 (wu64 (nth x x2 (dflt (.int .u32)))) by_1) (32 : Int)))))))
          (.obl (curOk (List.length xs) (0 : Nat) (List.length xs) (List.length (List.set xs ((0 : Nat) + (Int.toNat x2)) (orI .u32 (nthN xs ((0 : Nat) + (Int.toNat x2)) (dflt (.int .u32))) (wu32 (shlI .u64 (wu64 (nth x x2 (dflt (.int .u32)))) by_1)))))) <|
            .obl ((List.length xs) = (List.length (List.set xs ((0 : Nat) + (Int.toNat x2)) (orI .u32 (nthN xs ((0 : Nat) + (Int.toNat x2)) (dflt (.int .u32))) (wu32 (shlI .u64 (wu64 (nth x x2 (dflt (.int .u32)))) by_1)))))) <|
            .ret (.inl ((w64 (x2 + (1 : Int))), (List.set xs ((0 : Nat) + (Int.toNat x2)) (orI .u32 (nthN xs ((0 : Nat) + (Int.toNat x2)) (dflt (.int .u32))) (wu32 (shlI .u64 (wu64 (nth x x2 (dflt (.int .u32)))) by_1))))))))
      (.obl (curOk (List.length xs) (0 : Nat) (List.length xs) (List.length xs)) <|
        .obl ((List.length xs) = (List.length xs)) <|
        .ret (.inr xs))
noncomputable def nat_left_L0 (by_1 : Int) (n1 : Int) (x : (List Int)) (x1 : Int) (s : (Int × (List Int))) : T ((List Int)) := T.loop (nat_left_R0 by_1 n1 x x1) s
noncomputable def nat_left (a : (List Int)) (by_ : Int) (n : Int) : T (List Int) :=
  .obl (mkOk n n (4 : Nat)) <|
  .obl (curOk (Int.toNat n) (0 : Nat) (Int.toNat n) (List.length (List.replicate (Int.toNat n) (0 : Int)))) <|
  .obl ((Int.toNat n) = (List.length (List.replicate (Int.toNat n) (0 : Int)))) <|
  T.bind (nat_left_L0 by_ n a (Nat.cast (List.length a) : Int) ((0 : Int), (List.replicate (Int.toNat n) (0 : Int)))) fun xs1 =>
  .obl ((List.length xs1) = (List.length xs1)) <|
  .ret (List.drop (0 : Nat) (List.take ((0 : Nat) + (List.length xs1)) xs1))
/-- pantograph/nat.Shift -/
noncomputable def nat_Shift_R0 (by_ : Int) (x : (List Int)) (x1 : Int) : (Int × (List Int)) → T ((Int × (List Int)) ⊕ ((List Int)))
  | (x2, xs) =>
    .ite (decide (x2 < x1))
      (.obl (idxOk x2 (List.length x)) <|
        .obl ((0 : Int) ≤ (32 : Int)) <|
        .obl ((0 : Int) ≤ by_) <|
        .obl (idxOk x2 (List.length xs)) <|
        .obl (eOk (List.length xs) (List.length xs) ((0 : Nat) + (Int.toNat x2)) (List.length xs)) <|
        .obl ((0 : Int) ≤ (32 : Int)) <|
        .obl (idxOk x2 (List.length xs)) <|
        .obl (eOk (List.length xs) (List.length xs) ((0 : Nat) + (Int.toNat x2)) (List.length xs)) <|
        .ite (decide ((0 : Int) < x2))
          (.obl (idxOk (w64 (x2 - (1 : Int))) (List.length xs)) <|
            .obl (eOk (List.length xs) (List.length xs) ((0 : Nat) + (Int.toNat (w64 (x2 - (1 : Int))))) (List.length (List.set xs ((0 : Nat) + (Int.toNat x2)) (orI .u32 (nthN xs ((0 : Nat) + (Int.toNat x2)) (dflt (.int .u32))) (wu32 (shrI .u64 (shrI .u64 (shlI .u64 (wu64 (nth x x2 (dflt (.int .u32)))) (32 : Int)) by_) (32 : Int))))))) <|
            .obl (idxOk (w64 (x2 - (1 : Int))) (List.length xs)) <|
            .obl (eOk (List.length xs) (List.length xs) ((0 : Nat) + (Int.toNat (w64 (x2 - (1 : Int))))) (List.length (List.set xs ((0 : Nat) + (Int.toNat x2)) (orI .u32 (nthN xs ((0 : Nat) + (Int.toNat x2)) (dflt (.int .u32))) (wu32 (shrI .u64 (shrI .u64 (shlI .u64 (wu64 (nth x x2 (dflt (.int .u32)))) (32 : Int)) by_) (32 : Int))))))) <|
            .obl (curOk (List.length xs) (0 : Nat) (List.length xs) (List.length (List.set (List.set xs ((0 : Nat) + (Int.toNat x2)) (orI .u32 (nthN xs ((0 : Nat) + (Int.toNat x2)) (dflt (.int .u32))) (wu32 (shrI .u64 (shrI .u64 (shlI .u64 (wu64 (nth x x2 (dflt (.int .u32)))) (32 : Int)) by_) (32 : Int))))) ((0 : Nat) + (Int.toNat (w64 (x2 - (1 : Int))))) (orI .u32 (nthN (List.set xs ((0 : Nat) + (Int.toNat x2)) (orI .u32 (nthN xs ((0 : Nat) + (Int.toNat x2)) (dflt (.int .u32))) (wu32 (shrI .u64 (shrI .u64 (shlI .u64 (wu64 (nth x x2 (dflt (.int .u32)))) (32 : Int)) by_) (32 : Int))))) ((0 : Nat) + (Int.toNat (w64 (x2 - (1 : Int))))) (dflt (.int .u32))) (wu32 (shrI .u64 (shlI .u64 (wu64 (nth x x2 (dflt (.int .u32)))) (32 : Int)) by_)))))) <|
            .obl ((List.length xs) = (List.length (List.set (List.set xs ((0 : Nat) + (Int.toNat x2)) (orI .u32 (nthN xs ((0 : Nat) + (Int.toNat x2)) (dflt (.int .u32))) (wu32 (shrI .u64 (shrI .u64 (shlI .u64 (wu64 (nth x x2 (dflt (.int .u32)))) (32 : Int)) by_) (32 : Int))))) ((0 : Nat) + (Int.toNat (w64 (x2 - (1 : Int))))) (orI .u32 (nthN (List.set xs ((0 : Nat) + (Int.toNat x2)) (orI .u32 (nthN xs ((0 : Nat) + (Int.toNat x2)) (dflt (.int .u32))) (wu32 (shrI .u64 (shrI .u64 (shlI .u64 (wu64 (nth x x2 (dflt (.int .u32)))) (32 : Int)) by_) (32 : Int))))) ((0 : Nat) + (Int.toNat (w64 (x2 - (1 : Int))))) (dflt (.int .u32))) (wu32 (shrI .u64 (shlI .u64 (wu64 (nth x x2 (dflt (.int .u32)))) (32 : Int)) by_)))))) <|
            .ret (.inl ((w64 (x2 + (1 : Int))), (List.set (List.set xs ((0 : Nat) + (Int.toNat x2)) (orI .u32 (nthN xs ((0 : Nat) + (Int.toNat x2)) (dflt (.int .u32))) (wu32 (shrI .u64 (shrI .u64 (shlI .u64 (wu64 (nth x x2 (dflt (.int .u32)))) (32 : Int)) by_) (32 : Int))))) ((0 : Nat) + (Int.toNat (w64 (x2 - (1 : Int))))) (orI .u32 (nthN (List.set xs ((0 : Nat) + (Int.toNat x2)) (orI .u32 (nthN xs ((0 : Nat) + (Int.toNat x2)) (dflt (.int .u32))) (wu32 (shrI .u64 (shrI .u64 (shlI .u64 (wu64 (nth x x2 (dflt (.int .u32)))) (32 : Int)) by_) (32 : Int))))) ((0 : Nat) + (Int.toNat (w64 (x2 - (1 : Int))))) (dflt (.int .u32))) (wu32 (shrI .u64 (shlI .u64 (wu64 (nth x x2 (dflt (.int .u32)))) (32 : Int)) by_)))))))
          (.obl (curOk (List.length xs) (0 : Nat) (List.length xs) (List.length (List.set xs ((0 : Nat) + (Int.toNat x2)) (orI .u32 (nthN xs ((0 : Nat) + (Int.toNat x2)) (dflt (.int .u32))) (wu32 (shrI .u64 (shrI .u64 (shlI .u64 (wu64 (nth x x2 (dflt (.int .u32)))) (32 : Int)) by_) (32 : Int))))))) <|
            .obl ((List.length xs) = (List.length (List.set xs ((0 : Nat) + (Int.toNat x2)) (orI .u32 (nthN xs ((0 : Nat) + (Int.toNat x2)) (dflt (.int .u32))) (wu32 (shrI .u64 (shrI .u64 (shlI .u64 (wu64 (nth x x2 (dflt (.int .u32)))) (32 : Int)) by_) (32 : Int))))))) <|
            .ret (.inl ((w64 (x2 + (1 : Int))), (List.set xs ((0 : Nat) + (Int.toNat x2)) (orI .u32 (nthN xs ((0 : Nat) + (Int.toNat x2)) (dflt (.int .u32))) (wu32 (shrI .u64 (shrI .u64 (shlI .u64 (wu64 (nth x x2 (dflt (.int .u32)))) (32 : Int)) by_) (32 : Int)))))))))
      (.obl (curOk (List.length xs) (0 : Nat) (List.length xs) (List.length xs)) <|
        .obl ((List.length xs) = (List.length xs)) <|
        .ret (.inr xs))
noncomputable def nat_Shift_L0 (by_ : Int) (x : (List Int)) (x1 : Int) (s : (Int × (List Int))) : T ((List Int)) := T.loop (nat_Shift_R0 by_ x x1) s
noncomputable def nat_Shift (a : (List Int)) (n : Int) : T (List Int) :=
  T.bind (nat_trim a) fun a1 =>
  .ite (decide ((minI (maxI n (-4096 : Int)) (4096 : Int)) < (0 : Int)))
    (.obl ((32 : Int) ≠ (0 : Int)) <|
      .ite (decide ((Nat.cast (List.length a1) : Int) ≤ (w64 (Int.tdiv (w64 ((0 : Int) - (minI (maxI n (-4096 : Int)) (4096 : Int)))) (32 : Int)))))
        (.ret ([] : List Int))
        (.obl ((32 : Int) ≠ (0 : Int)) <|
          .obl (mkOk (w64 ((Nat.cast (List.length a1) : Int) - (w64 (Int.tdiv (w64 ((0 : Int) - (minI (maxI n (-4096 : Int)) (4096 : Int)))) (32 : Int))))) (w64 ((Nat.cast (List.length a1) : Int) - (w64 (Int.tdiv (w64 ((0 : Int) - (minI (maxI n (-4096 : Int)) (4096 : Int)))) (32 : Int))))) (4 : Nat)) <|
          .obl (slOk (w64 (Int.tdiv (w64 ((0 : Int) - (minI (maxI n (-4096 : Int)) (4096 : Int)))) (32 : Int))) (Nat.cast (List.length a1) : Int) (List.length a1)) <|
          .obl (curOk (Int.toNat (w64 ((Nat.cast (List.length a1) : Int) - (w64 (Int.tdiv (w64 ((0 : Int) - (minI (maxI n (-4096 : Int)) (4096 : Int)))) (32 : Int)))))) (0 : Nat) (Int.toNat (w64 ((Nat.cast (List.length a1) : Int) - (w64 (Int.tdiv (w64 ((0 : Int) - (minI (maxI n (-4096 : Int)) (4096 : Int)))) (32 : Int)))))) (List.length (List.replicate (Int.toNat (w64 ((Nat.cast (List.length a1) : Int) - (w64 (Int.tdiv (w64 ((0 : Int) - (minI (maxI n (-4096 : Int)) (4096 : Int)))) (32 : Int)))))) (0 : Int)))) <|
          .obl ((Int.toNat (w64 ((Nat.cast (List.length a1) : Int) - (w64 (Int.tdiv (w64 ((0 : Int) - (minI (maxI n (-4096 : Int)) (4096 : Int)))) (32 : Int)))))) = (List.length (List.replicate (Int.toNat (w64 ((Nat.cast (List.length a1) : Int) - (w64 (Int.tdiv (w64 ((0 : Int) - (minI (maxI n (-4096 : Int)) (4096 : Int)))) (32 : Int)))))) (0 : Int)))) <|
          T.bind (nat_Shift_L0 (wu64 (Int.tmod (w64 ((0 : Int) - (minI (maxI n (-4096 : Int)) (4096 : Int)))) (32 : Int))) (cutL (e := (.int .u32)) (w64 (Int.tdiv (w64 ((0 : Int) - (minI (maxI n (-4096 : Int)) (4096 : Int)))) (32 : Int))) (Nat.cast (List.length a1) : Int) a1) (Nat.cast (List.length (cutL (e := (.int .u32)) (w64 (Int.tdiv (w64 ((0 : Int) - (minI (maxI n (-4096 : Int)) (4096 : Int)))) (32 : Int))) (Nat.cast (List.length a1) : Int) a1)) : Int) ((0 : Int), (List.replicate (Int.toNat (w64 ((Nat.cast (List.length a1) : Int) - (w64 (Int.tdiv (w64 ((0 : Int) - (minI (maxI n (-4096 : Int)) (4096 : Int)))) (32 : Int)))))) (0 : Int)))) fun xs1 =>
          .obl ((List.length xs1) = (List.length xs1)) <|
          T.bind (nat_trim (List.drop (0 : Nat) (List.take ((0 : Nat) + (List.length xs1)) xs1))) fun r =>
          .ret r))
    (.obl ((32 : Int) ≠ (0 : Int)) <|
      .obl (mkOk (w64 ((w64 ((w64 (Int.tdiv (minI (maxI n (-4096 : Int)) (4096 : Int)) (32 : Int))) + (Nat.cast (List.length a1) : Int))) + (1 : Int))) (w64 ((w64 ((w64 (Int.tdiv (minI (maxI n (-4096 : Int)) (4096 : Int)) (32 : Int))) + (Nat.cast (List.length a1) : Int))) + (1 : Int))) (4 : Nat)) <|
      .obl (slOk (w64 (Int.tdiv (minI (maxI n (-4096 : Int)) (4096 : Int)) (32 : Int))) (Nat.cast (Int.toNat (w64 ((w64 ((w64 (Int.tdiv (minI (maxI n (-4096 : Int)) (4096 : Int)) (32 : Int))) + (Nat.cast (List.length a1) : Int))) + (1 : Int)))) : Int) (Int.toNat (w64 ((w64 ((w64 (Int.tdiv (minI (maxI n (-4096 : Int)) (4096 : Int)) (32 : Int))) + (Nat.cast (List.length a1) : Int))) + (1 : Int))))) <|
      .obl ((32 : Int) ≠ (0 : Int)) <|
      T.bind (nat_left a1 (wu64 (Int.tmod (minI (maxI n (-4096 : Int)) (4096 : Int)) (32 : Int))) (w64 ((Nat.cast (List.length a1) : Int) + (1 : Int)))) fun r1 =>
      .obl (cpyOk (Int.toNat (w64 ((w64 ((w64 (Int.tdiv (minI (maxI n (-4096 : Int)) (4096 : Int)) (32 : Int))) + (Nat.cast (List.length a1) : Int))) + (1 : Int)))) (Int.toNat (w64 ((w64 ((w64 (Int.tdiv (minI (maxI n (-4096 : Int)) (4096 : Int)) (32 : Int))) + (Nat.cast (List.length a1) : Int))) + (1 : Int)))) ((0 : Nat) + (Int.toNat (w64 (Int.tdiv (minI (maxI n (-4096 : Int)) (4096 : Int)) (32 : Int))))) ((Int.toNat (Nat.cast (Int.toNat (w64 ((w64 ((w64 (Int.tdiv (minI (maxI n (-4096 : Int)) (4096 : Int)) (32 : Int))) + (Nat.cast (List.length a1) : Int))) + (1 : Int)))) : Int)) - (Int.toNat (w64 (Int.tdiv (minI (maxI n (-4096 : Int)) (4096 : Int)) (32 : Int))))) (List.length (List.replicate (Int.toNat (w64 ((w64 ((w64 (Int.tdiv (minI (maxI n (-4096 : Int)) (4096 : Int)) (32 : Int))) + (Nat.cast (List.length a1) : Int))) + (1 : Int)))) (0 : Int)))) <|
      .obl ((Int.toNat (w64 ((w64 ((w64 (Int.tdiv (minI (maxI n (-4096 : Int)) (4096 : Int)) (32 : Int))) + (Nat.cast (List.length a1) : Int))) + (1 : Int)))) = (Int.toNat (w64 ((w64 ((w64 (Int.tdiv (minI (maxI n (-4096 : Int)) (4096 : Int)) (32 : Int))) + (Nat.cast (List.length a1) : Int))) + (1 : Int))))) <|
      T.bind (nat_trim (List.drop (0 : Nat) (List.take ((0 : Nat) + (Int.toNat (w64 ((w64 ((w64 (Int.tdiv (minI (maxI n (-4096 : Int)) (4096 : Int)) (32 : Int))) + (Nat.cast (List.length a1) : Int))) + (1 : Int))))) (copyL ((0 : Nat) + (Int.toNat (w64 (Int.tdiv (minI (maxI n (-4096 : Int)) (4096 : Int)) (32 : Int))))) ((Int.toNat (Nat.cast (Int.toNat (w64 ((w64 ((w64 (Int.tdiv (minI (maxI n (-4096 : Int)) (4096 : Int)) (32 : Int))) + (Nat.cast (List.length a1) : Int))) + (1 : Int)))) : Int)) - (Int.toNat (w64 (Int.tdiv (minI (maxI n (-4096 : Int)) (4096 : Int)) (32 : Int))))) (List.replicate (Int.toNat (w64 ((w64 ((w64 (Int.tdiv (minI (maxI n (-4096 : Int)) (4096 : Int)) (32 : Int))) + (Nat.cast (List.length a1) : Int))) + (1 : Int)))) (0 : Int)) r1)))) fun r2 =>
      .ret r2)
/-- pantograph/nat.long -/
noncomputable def nat_long_R0 (by_ : Int) (d : (List Int)) (n : Int) : (Int × (List Int) × (List Int)) → T ((Int × (List Int) × (List Int)) ⊕ (((List Int) × (List Int))))
  | (i, xs2, xs3) =>
    .ite (decide ((0 : Int) ≤ i))
      (.obl (idxOk (w64 (i + n)) (List.length xs2)) <|
        .obl (eOk (List.length xs2) (List.length xs2) ((0 : Nat) + (Int.toNat (w64 (i + n)))) (List.length xs2)) <|
        .obl (idxOk (w64 ((w64 (i + n)) - (1 : Int))) (List.length xs2)) <|
        .obl (eOk (List.length xs2) (List.length xs2) ((0 : Nat) + (Int.toNat (w64 ((w64 (i + n)) - (1 : Int))))) (List.length xs2)) <|
        .obl (idxOk (w64 ((w64 (i + n)) - (2 : Int))) (List.length xs2)) <|
        .obl (eOk (List.length xs2) (List.length xs2) ((0 : Nat) + (Int.toNat (w64 ((w64 (i + n)) - (2 : Int))))) (List.length xs2)) <|
        .obl (idxOk (w64 (n - (1 : Int))) (List.length d)) <|
        .obl (idxOk (w64 (n - (2 : Int))) (List.length d)) <|
        T.bind (nat_guess (nthN xs2 ((0 : Nat) + (Int.toNat (w64 (i + n)))) (dflt (.int .u32))) (nthN xs2 ((0 : Nat) + (Int.toNat (w64 ((w64 (i + n)) - (1 : Int))))) (dflt (.int .u32))) (nthN xs2 ((0 : Nat) + (Int.toNat (w64 ((w64 (i + n)) - (2 : Int))))) (dflt (.int .u32))) (nth d (w64 (n - (1 : Int))) (dflt (.int .u32))) (nth d (w64 (n - (2 : Int))) (dflt (.int .u32)))) fun x =>
        T.bind (.obl (slOk i (w64 ((w64 (i + n)) + (1 : Int))) (List.length xs2)) <|
            .obl ((List.length xs2) = (List.length xs2)) <|
            .obl ((List.length xs2) = (List.length xs2)) <|
            T.bind (nat_takes_S (((0 : Nat) + (Int.toNat i)), ((Int.toNat (w64 ((w64 (i + n)) + (1 : Int)))) - (Int.toNat i))) d x xs2) fun (r1, u) =>
            .ite r1
              (.obl (curOk (List.length xs3) (0 : Nat) (List.length xs3) (List.length xs3)) <|
                .obl (curOk (List.length xs2) (0 : Nat) (List.length xs2) (List.length u)) <|
                .obl ((List.length u) = (List.length u)) <|
                .obl ((List.length xs3) = (List.length xs3)) <|
                .ret ((wu64 (x - (1 : Int))), (u, xs3)))
              (.obl (curOk (List.length xs3) (0 : Nat) (List.length xs3) (List.length xs3)) <|
                .obl (curOk (List.length xs2) (0 : Nat) (List.length xs2) (List.length u)) <|
                .obl ((List.length u) = (List.length u)) <|
                .obl ((List.length xs3) = (List.length xs3)) <|
                .ret (x, (u, xs3))) : T ((Int × (List Int) × (List Int)))) fun (x1, xs4, xs5) =>
        .obl (idxOk i (List.length xs5)) <|
        .obl (eOk (List.length xs5) (List.length xs5) ((0 : Nat) + (Int.toNat i)) (List.length xs5)) <|
        .obl (curOk (List.length xs5) (0 : Nat) (List.length xs5) (List.length (List.set xs5 ((0 : Nat) + (Int.toNat i)) (wu32 x1)))) <|
        .obl (curOk (List.length xs4) (0 : Nat) (List.length xs4) (List.length xs4)) <|
        .obl ((List.length xs4) = (List.length xs4)) <|
        .obl ((List.length xs5) = (List.length (List.set xs5 ((0 : Nat) + (Int.toNat i)) (wu32 x1)))) <|
        .ret (.inl ((w64 (i - (1 : Int))), (xs4, (List.set xs5 ((0 : Nat) + (Int.toNat i)) (wu32 x1))))))
      (.obl (curOk (List.length xs3) (0 : Nat) (List.length xs3) (List.length xs3)) <|
        .obl (curOk (List.length xs2) (0 : Nat) (List.length xs2) (List.length xs2)) <|
        .obl ((List.length xs2) = (List.length xs2)) <|
        .obl ((List.length xs3) = (List.length xs3)) <|
        .ret (.inr (xs2, xs3)))
noncomputable def nat_long_L0 (by_ : Int) (d : (List Int)) (n : Int) (s : (Int × (List Int) × (List Int))) : T (((List Int) × (List Int))) := T.loop (nat_long_R0 by_ d n) s
noncomputable def nat_long (a : (List Int)) (b : (List Int)) : T ((List Int) × (List Int)) :=
  .obl (idxOk (w64 ((Nat.cast (List.length b) : Int) - (1 : Int))) (List.length b)) <|
  T.bind (math_bits_LeadingZeros32 (nth b (w64 ((Nat.cast (List.length b) : Int) - (1 : Int))) (dflt (.int .u32)))) fun r =>
  T.bind (nat_left_S a (wu64 r) (w64 ((Nat.cast (List.length a) : Int) + (1 : Int)))) fun xs =>
  T.bind (nat_left_S b (wu64 r) (Nat.cast (List.length b) : Int)) fun xs1 =>
  .obl (mkOk (w64 ((w64 ((Nat.cast (List.length a) : Int) - (Nat.cast (List.length xs1) : Int))) + (1 : Int))) (w64 ((w64 ((Nat.cast (List.length a) : Int) - (Nat.cast (List.length xs1) : Int))) + (1 : Int))) (4 : Nat)) <|
  .obl ((List.length xs1) = (List.length xs1)) <|
  .obl (curOk (Int.toNat (w64 ((w64 ((Nat.cast (List.length a) : Int) - (Nat.cast (List.length xs1) : Int))) + (1 : Int)))) (0 : Nat) (Int.toNat (w64 ((w64 ((Nat.cast (List.length a) : Int) - (Nat.cast (List.length xs1) : Int))) + (1 : Int)))) (List.length (List.replicate (Int.toNat (w64 ((w64 ((Nat.cast (List.length a) : Int) - (Nat.cast (List.length xs1) : Int))) + (1 : Int)))) (0 : Int)))) <|
  .obl (curOk (List.length xs) (0 : Nat) (List.length xs) (List.length xs)) <|
  .obl ((List.length xs) = (List.length xs)) <|
  .obl ((Int.toNat (w64 ((w64 ((Nat.cast (List.length a) : Int) - (Nat.cast (List.length xs1) : Int))) + (1 : Int)))) = (List.length (List.replicate (Int.toNat (w64 ((w64 ((Nat.cast (List.length a) : Int) - (Nat.cast (List.length xs1) : Int))) + (1 : Int)))) (0 : Int)))) <|
  T.bind (nat_long_L0 (wu64 r) (List.drop (0 : Nat) (List.take ((0 : Nat) + (List.length xs1)) xs1)) (Nat.cast (List.length xs1) : Int) ((w64 ((Nat.cast (Int.toNat (w64 ((w64 ((Nat.cast (List.length a) : Int) - (Nat.cast (List.length xs1) : Int))) + (1 : Int)))) : Int) - (1 : Int))), (xs, (List.replicate (Int.toNat (w64 ((w64 ((Nat.cast (List.length a) : Int) - (Nat.cast (List.length xs1) : Int))) + (1 : Int)))) (0 : Int))))) fun (xs6, xs7) =>
  .obl ((List.length xs7) = (List.length xs7)) <|
  .obl ((List.length xs6) = (List.length xs6)) <|
  T.bind (nat_trim (List.drop (0 : Nat) (List.take ((0 : Nat) + (List.length xs7)) xs7))) fun q1 =>
  .obl (slOk (0 : Int) (Nat.cast (List.length xs1) : Int) (List.length (List.drop (0 : Nat) (List.take ((0 : Nat) + (List.length xs6)) xs6)))) <|
  T.bind (nat_Shift (cutL (e := (.int .u32)) (0 : Int) (Nat.cast (List.length xs1) : Int) (List.drop (0 : Nat) (List.take ((0 : Nat) + (List.length xs6)) xs6))) (w64 ((0 : Int) - (w64 (wu64 r))))) fun r2 =>
  .ret (q1, r2)
/-- pantograph/nat.DivMod -/
noncomputable def nat_DivMod (a : (List Int)) (b : (List Int)) : T ((List Int) × (List Int) × Bool) :=
  T.bind (nat_trim a) fun a1 =>
  T.bind (nat_trim b) fun b1 =>
  .ite ((Nat.cast (List.length b1) : Int) == (0 : Int))
    (.ret (([] : List Int), (([] : List Int), false)))
    (T.bind (nat_Cmp a1 b1) fun r =>
      .ite (decide (r < (0 : Int)))
        (T.bind (nat_Trim a1) fun r1 =>
          .ret (([] : List Int), (r1, true)))
        (.ite ((Nat.cast (List.length b1) : Int) == (1 : Int))
            (.obl (idxOk (0 : Int) (List.length b1)) <|
              T.bind (nat_small a1 (nth b1 (0 : Int) (dflt (.int .u32)))) fun (q, rest) =>
              T.bind (nat_Of (wu64 rest)) fun r2 =>
              .ret (q, (r2, true)))
            (T.bind (nat_long a1 b1) fun (q1, r3) =>
              .ret (q1, (r3, true)))))
/-- pantograph/nat.Gcd -/
noncomputable def nat_Gcd_R0  : ((List Int) × (List Int)) → T (((List Int) × (List Int)) ⊕ ((List Int)))
  | (a2, b2) =>
    .ite (decide ((0 : Int) < (Nat.cast (List.length b2) : Int)))
      (T.bind (nat_DivMod a2 b2) fun (r, r1, r2) =>
        .ret (.inl (b2, r1)))
      (.ret (.inr a2))
noncomputable def nat_Gcd_L0  (s : ((List Int) × (List Int))) : T ((List Int)) := T.loop (nat_Gcd_R0 ) s
noncomputable def nat_Gcd (a : (List Int)) (b : (List Int)) : T (List Int) :=
  T.bind (nat_Trim a) fun a1 =>
  T.bind (nat_Trim b) fun b1 =>
  T.bind (nat_Gcd_L0  (a1, b1)) fun a3 =>
  .ret a3
/-- pantograph/rat.Of -/
noncomputable def rat_Of (neg : Bool) (n : (List Int)) (d : (List Int)) : T Rat :=
  T.bind (nat_Trim n) fun n1 =>
  T.bind (nat_Trim d) fun d1 =>
  .ite (((Nat.cast (List.length n1) : Int) == (0 : Int)) || ((Nat.cast (List.length d1) : Int) == (0 : Int)))
    (T.bind (nat_Of (1 : Int)) fun r =>
      .ret (false, (([] : List Int), (r, ()))))
    (T.bind (nat_Gcd n1 d1) fun g =>
      T.bind (nat_DivMod n1 g) fun (n2, r1, r2) =>
      T.bind (nat_DivMod d1 g) fun (d2, r3, r4) =>
      .ret (neg, (n2, (d2, ()))))
/-- pantograph/rat.Norm -/
noncomputable def rat_Norm (a : Rat) : T Rat :=
  T.bind (rat_Of a.1 a.2.1 a.2.2.1) fun r =>
  .ret r
/-- pantograph/dec.sign -/
noncomputable def dec_sign (a : Rat) : T Str :=
  .ite a.1
    (.ret ([45] : Str))
    (.ret ([] : Str))
/-- slices.Reverse[[]byte,byte] -/
noncomputable def slices_Reverse_sl_byte_S_R0  : ((Nat × Nat) × Int × Int × (List Int)) → T (((Nat × Nat) × Int × Int × (List Int)) ⊕ ((List Int)))
  | (s1, i, j, xs) =>
    .ite (decide (i < j))
      (.obl (idxOk j s1.2) <|
        .obl (eOk (List.length xs) (List.length xs) (s1.1 + (Int.toNat j)) (List.length xs)) <|
        .obl (idxOk i s1.2) <|
        .obl (eOk (List.length xs) (List.length xs) (s1.1 + (Int.toNat i)) (List.length xs)) <|
        .obl (idxOk i s1.2) <|
        .obl (eOk (List.length xs) (List.length xs) (s1.1 + (Int.toNat i)) (List.length xs)) <|
        .obl (idxOk j s1.2) <|
        .obl (eOk (List.length xs) (List.length xs) (s1.1 + (Int.toNat j)) (List.length (List.set xs (s1.1 + (Int.toNat i)) (nthN xs (s1.1 + (Int.toNat j)) (dflt (.int .u8)))))) <|
        .obl ((List.length xs) = (List.length xs)) <|
        .obl ((List.length xs) = (List.length (List.set (List.set xs (s1.1 + (Int.toNat i)) (nthN xs (s1.1 + (Int.toNat j)) (dflt (.int .u8)))) (s1.1 + (Int.toNat j)) (nthN xs (s1.1 + (Int.toNat i)) (dflt (.int .u8)))))) <|
        .ret (.inl (s1, ((w64 (i + (1 : Int))), ((w64 (j - (1 : Int))), (List.set (List.set xs (s1.1 + (Int.toNat i)) (nthN xs (s1.1 + (Int.toNat j)) (dflt (.int .u8)))) (s1.1 + (Int.toNat j)) (nthN xs (s1.1 + (Int.toNat i)) (dflt (.int .u8)))))))))
      (.obl ((List.length xs) = (List.length xs)) <|
        .ret (.inr xs))
noncomputable def slices_Reverse_sl_byte_S_L0  (s : ((Nat × Nat) × Int × Int × (List Int))) : T ((List Int)) := T.loop (slices_Reverse_sl_byte_S_R0 ) s
noncomputable def slices_Reverse_sl_byte_S (sw : (Nat × Nat)) (s : (List Int)) : T (List Int) :=
  .obl ((List.length s) = (List.length s)) <|
  .obl ((List.length s) = (List.length s)) <|
  T.bind (slices_Reverse_sl_byte_S_L0  (sw, ((0 : Int), ((w64 ((Nat.cast sw.2 : Int) - (1 : Int))), s)))) fun xs1 =>
  .obl ((List.length xs1) = (List.length xs1)) <|
  .ret xs1
/-- pantograph/nat.Print -/
noncomputable def nat_Print_R1 (q1 : (List Int)) : (Int × Int × (List Int)) → T ((Int × Int × (List Int)) ⊕ ((List Int)))
  | (rest1, x, xs1) =>
    .ite (decide (x < (9 : Int)))
      (.obl ((10 : Int) ≠ (0 : Int)) <|
        .obl (idxOk (Int.tmod rest1 (10 : Int)) (List.length ([48, 49, 50, 51, 52, 53, 54, 55, 56, 57] : Str))) <|
        .obl (appOk (List.length xs1) (List.length xs1) (0 : Nat) (List.length xs1) (List.length xs1) (1 : Nat) (1 : Nat)) <|
        .obl ((10 : Int) ≠ (0 : Int)) <|
        .obl (curOk ((List.length xs1) + (1 : Nat)) (0 : Nat) ((List.length xs1) + (1 : Nat)) (List.length (xs1 ++ ([(byteAt ([48, 49, 50, 51, 52, 53, 54, 55, 56, 57] : Str) (Int.tmod rest1 (10 : Int)))] : List Int)))) <|
        .obl (((List.length xs1) + (1 : Nat)) = (List.length (xs1 ++ ([(byteAt ([48, 49, 50, 51, 52, 53, 54, 55, 56, 57] : Str) (Int.tmod rest1 (10 : Int)))] : List Int)))) <|
        .ret (.inl ((wu32 (Int.tdiv rest1 (10 : Int))), ((w64 (x + (1 : Int))), (xs1 ++ ([(byteAt ([48, 49, 50, 51, 52, 53, 54, 55, 56, 57] : Str) (Int.tmod rest1 (10 : Int)))] : List Int))))))
      (.obl (curOk (List.length xs1) (0 : Nat) (List.length xs1) (List.length xs1)) <|
        .obl ((List.length xs1) = (List.length xs1)) <|
        .ret (.inr xs1))
noncomputable def nat_Print_L1 (q1 : (List Int)) (s : (Int × Int × (List Int))) : T ((List Int)) := T.loop (nat_Print_R1 q1) s
noncomputable def nat_Print_R0  : ((List Int) × (List Int)) → T (((List Int) × (List Int)) ⊕ ((List Int)))
  | (a2, xs) =>
    .ite (decide ((0 : Int) < (Nat.cast (List.length a2) : Int)))
      (T.bind (nat_small a2 (1000000000 : Int)) fun (q, rest) =>
        .obl (curOk (List.length xs) (0 : Nat) (List.length xs) (List.length xs)) <|
        .obl ((List.length xs) = (List.length xs)) <|
        T.bind (nat_Print_L1 q (rest, ((0 : Int), xs))) fun xs2 =>
        .obl (curOk (List.length xs2) (0 : Nat) (List.length xs2) (List.length xs2)) <|
        .obl ((List.length xs2) = (List.length xs2)) <|
        .ret (.inl (q, xs2)))
      (.obl (curOk (List.length xs) (0 : Nat) (List.length xs) (List.length xs)) <|
        .obl ((List.length xs) = (List.length xs)) <|
        .ret (.inr xs))
noncomputable def nat_Print_L0  (s : ((List Int) × (List Int))) : T ((List Int)) := T.loop (nat_Print_R0 ) s
noncomputable def nat_Print_R2  : ((Nat × Nat) × (List Int)) → T (((Nat × Nat) × (List Int)) ⊕ (((Nat × Nat) × (List Int))))
  | (b, xs4) =>
    .obl (((decide ((1 : Int) < (Nat.cast b.2 : Int))) = true) → ((idxOk (w64 ((Nat.cast b.2 : Int) - (1 : Int))) b.2) ∧ (eOk (List.length xs4) (List.length xs4) (b.1 + (Int.toNat (w64 ((Nat.cast b.2 : Int) - (1 : Int))))) (List.length xs4)))) <|
    .ite ((decide ((1 : Int) < (Nat.cast b.2 : Int))) && ((nthN xs4 (b.1 + (Int.toNat (w64 ((Nat.cast b.2 : Int) - (1 : Int))))) (dflt (.int .u8))) == (48 : Int)))
      (.obl (slOk (0 : Int) (w64 ((Nat.cast b.2 : Int) - (1 : Int))) b.2) <|
        .obl ((List.length xs4) = (List.length xs4)) <|
        .obl ((List.length xs4) = (List.length xs4)) <|
        .ret (.inl (((b.1 + (Int.toNat (0 : Int))), ((Int.toNat (w64 ((Nat.cast b.2 : Int) - (1 : Int)))) - (Int.toNat (0 : Int)))), xs4)))
      (.obl ((List.length xs4) = (List.length xs4)) <|
        .obl ((List.length xs4) = (List.length xs4)) <|
        .ret (.inr (b, xs4)))
noncomputable def nat_Print_L2  (s : ((Nat × Nat) × (List Int))) : T (((Nat × Nat) × (List Int))) := T.loop (nat_Print_R2 ) s
noncomputable def nat_Print (a : (List Int)) : T Str :=
  T.bind (nat_Trim a) fun a1 =>
  .ite ((Nat.cast (List.length a1) : Int) == (0 : Int))
    (.ret ([48] : Str))
    (.obl (curOk (0 : Nat) (0 : Nat) (0 : Nat) (0 : Nat)) <|
      .obl ((0 : Nat) = (0 : Nat)) <|
      T.bind (nat_Print_L0  (a1, ([] : List Int))) fun xs3 =>
      .obl ((List.length xs3) = (List.length xs3)) <|
      .obl ((List.length xs3) = (List.length xs3)) <|
      T.bind (nat_Print_L2  (((0 : Nat), (List.length xs3)), xs3)) fun (b1, xs5) =>
      .obl ((List.length xs5) = (List.length xs5)) <|
      .obl ((List.length xs5) = (List.length xs5)) <|
      T.bind (slices_Reverse_sl_byte_S b1 xs5) fun b2 =>
      .obl ((List.length xs5) = (List.length b2)) <|
      .ret (bytesStr (List.drop b1.1 (List.take (b1.1 + b1.2) b2))))
/-- pantograph/dec.Print -/
noncomputable def dec_Print (a : Rat) : T Str :=
  T.bind (rat_Norm a) fun r =>
  T.bind (dec_sign r) fun r1 =>
  T.bind (nat_Print r.2.1) fun r2 =>
  .obl (((List.length r1) + (List.length r2)) ≤ (4611686018427387904 : Nat)) <|
  T.bind (nat_Of (1 : Int)) fun r3 =>
  T.bind (nat_Cmp r.2.2.1 r3) fun r4 =>
  .ite (r4 != (0 : Int))
    (T.bind (nat_Print r.2.2.1) fun r5 =>
      .obl (((List.length ([47] : Str)) + (List.length r5)) ≤ (4611686018427387904 : Nat)) <|
      .obl (((List.length (cat r1 r2)) + (List.length (cat ([47] : Str) r5))) ≤ (4611686018427387904 : Nat)) <|
      .ret (cat (cat r1 r2) (cat ([47] : Str) r5)))
    (.ret (cat r1 r2))
/-- (*strings.Builder).copyCheck -/
noncomputable def bld_copyCheck (v : Unit) (l : List Int) : T (Unit × List Int) := .ret (v, l)
/-- (*strings.Builder).WriteString -/
noncomputable def strings_Builder_WriteString_S (s : Str) (b : (Unit)) (xs : (List Int)) : T (Int × (Unit) × (List Int)) :=
  .obl (curOk (List.length xs) (0 : Nat) (List.length xs) (List.length xs)) <|
  .obl ((List.length xs) = (List.length xs)) <|
  T.bind (bld_copyCheck () xs) fun (b1, xs1) =>
  .obl (appOk (List.length xs1) (List.length xs1) (0 : Nat) (List.length xs1) (List.length xs1) (List.length (bytesOf s)) (1 : Nat)) <|
  .obl (curOk ((List.length xs1) + (List.length (bytesOf s))) (0 : Nat) ((List.length xs1) + (List.length (bytesOf s))) (List.length (xs1 ++ (bytesOf s)))) <|
  .obl (((List.length xs1) + (List.length (bytesOf s))) = (List.length (xs1 ++ (bytesOf s)))) <|
  .ret ((Nat.cast (List.length s) : Int), ((), (xs1 ++ (bytesOf s))))
/-- (*strings.Builder).String -/
noncomputable def bld_String (v : Unit) (l : List Int) : T (Str × Unit) := strT l
/-- pantograph/record.Encode -/
noncomputable def record_Encode_R0 (x : (List Param)) (x1 : Int) : (Int × (Unit) × (List Int)) → T ((Int × (Unit) × (List Int)) ⊕ (((Unit) × (List Int))))
  | (x2, v, xs) =>
    .ite (decide (x2 < x1))
      (.obl (idxOk x2 (List.length x)) <|
        .obl (((List.length (nth x x2 (dflt tyParam)).1) + (List.length ([32] : Str))) ≤ (4611686018427387904 : Nat)) <|
        T.bind (dec_Print ((nth x x2 (dflt tyParam)).2.1.1, ((nth x x2 (dflt tyParam)).2.1.2.1, ((nth x x2 (dflt tyParam)).2.1.2.2.1, ())))) fun r =>
        .obl (((List.length (cat (nth x x2 (dflt tyParam)).1 ([32] : Str))) + (List.length r)) ≤ (4611686018427387904 : Nat)) <|
        .obl (((List.length (cat (cat (nth x x2 (dflt tyParam)).1 ([32] : Str)) r)) + (List.length ([10] : Str))) ≤ (4611686018427387904 : Nat)) <|
        .obl (curOk (List.length xs) (0 : Nat) (List.length xs) (List.length xs)) <|
        .obl ((List.length xs) = (List.length xs)) <|
        T.bind (strings_Builder_WriteString_S (cat (cat (cat (nth x x2 (dflt tyParam)).1 ([32] : Str)) r) ([10] : Str)) () xs) fun (r1, w, xs1) =>
        .obl (curOk (List.length xs1) (0 : Nat) (List.length xs1) (List.length xs1)) <|
        .obl ((List.length xs1) = (List.length xs1)) <|
        .ret (.inl ((w64 (x2 + (1 : Int))), ((), xs1))))
      (.obl (curOk (List.length xs) (0 : Nat) (List.length xs) (List.length xs)) <|
        .obl ((List.length xs) = (List.length xs)) <|
        .ret (.inr ((), xs)))
noncomputable def record_Encode_L0 (x : (List Param)) (x1 : Int) (s : (Int × (Unit) × (List Int))) : T (((Unit) × (List Int))) := T.loop (record_Encode_R0 x x1) s
noncomputable def record_Encode (l : (List Param)) : T Str :=
  .obl (curOk (0 : Nat) (0 : Nat) (0 : Nat) (0 : Nat)) <|
  .obl ((0 : Nat) = (0 : Nat)) <|
  T.bind (record_Encode_L0 l (Nat.cast (List.length l) : Int) ((0 : Int), ((), ([] : List Int)))) fun (v1, xs2) =>
  .obl (curOk (List.length xs2) (0 : Nat) (List.length xs2) (List.length xs2)) <|
  .obl ((List.length xs2) = (List.length xs2)) <|
  T.bind (bld_String () xs2) fun (r2, w1) =>
  .ret r2
/-- pantograph/pantographlaw21.known -/
noncomputable def law21_known  : T Bool :=
  T.bind (record_Encode ([(([97] : Str), ((false, (([(1 : Int)] : List Int), (([(3 : Int)] : List Int), ()))), ()))] : List Param)) fun r =>
  .ret (strEq r ([97, 32, 49, 47, 51, 10] : Str))
/-- pantograph/elab.Fields -/
noncomputable def elab_Fields_R0 (x : (List Field)) (x1 : Int) : (Int × (List Str)) → T ((Int × (List Str)) ⊕ ((List Str)))
  | (x2, xs) =>
    .ite (decide (x2 < x1))
      (.obl (idxOk x2 (List.length x)) <|
        .obl (appOk (List.length xs) (List.length xs) (0 : Nat) (List.length xs) (List.length xs) (1 : Nat) (16 : Nat)) <|
        .obl (curOk ((List.length xs) + (1 : Nat)) (0 : Nat) ((List.length xs) + (1 : Nat)) (List.length (xs ++ ([(nth x x2 (dflt tyField)).1] : List Str)))) <|
        .obl (((List.length xs) + (1 : Nat)) = (List.length (xs ++ ([(nth x x2 (dflt tyField)).1] : List Str)))) <|
        .ret (.inl ((w64 (x2 + (1 : Int))), (xs ++ ([(nth x x2 (dflt tyField)).1] : List Str)))))
      (.obl (curOk (List.length xs) (0 : Nat) (List.length xs) (List.length xs)) <|
        .obl ((List.length xs) = (List.length xs)) <|
        .ret (.inr xs))
noncomputable def elab_Fields_L0 (x : (List Field)) (x1 : Int) (s : (Int × (List Str))) : T ((List Str)) := T.loop (elab_Fields_R0 x x1) s
noncomputable def elab_Fields (f : Form) : T (List Str) :=
  .obl (curOk (0 : Nat) (0 : Nat) (0 : Nat) (0 : Nat)) <|
  .obl ((0 : Nat) = (0 : Nat)) <|
  T.bind (elab_Fields_L0 f.2.2.2.1 (Nat.cast (List.length f.2.2.2.1) : Int) ((0 : Int), ([] : List Str))) fun xs1 =>
  .obl ((List.length xs1) = (List.length xs1)) <|
  .ret (List.drop (0 : Nat) (List.take ((0 : Nat) + (List.length xs1)) xs1))
/-- slices.Clone[[]pantograph/api.Rat,pantograph/api.Rat] -/
noncomputable def slices_Clone_sl_Rat (s : (List Rat)) : T (List Rat) :=
  .obl (s = [] → ∀ r, T.leads (.obl (appOk (0 : Nat) (0 : Nat) (0 : Nat) (0 : Nat) (0 : Nat) (List.length s) (56 : Nat)) <|
      .obl (((0 : Nat) + (List.length s)) = ((0 : Nat) + (List.length s))) <|
      .ret (List.drop (0 : Nat) (List.take ((0 : Nat) + ((0 : Nat) + (List.length s))) s)) : T _) r → T.leads (.ret ([] : List Rat) : T _) r) <|
  .obl (appOk (0 : Nat) (0 : Nat) (0 : Nat) (0 : Nat) (0 : Nat) (List.length s) (56 : Nat)) <|
  .obl (((0 : Nat) + (List.length s)) = ((0 : Nat) + (List.length s))) <|
  .ret (List.drop (0 : Nat) (List.take ((0 : Nat) + ((0 : Nat) + (List.length s))) s))
/-- pantograph/elab.Env -/
noncomputable def elab_Env_R0 (x : (List Param)) (x1 : Int) : (Int × ((List Rat) × Unit) × ((List Str) × (List Rat) × Unit) × (List Str) × (List Str) × (List Str)) → T ((Int × ((List Rat) × Unit) × ((List Str) × (List Rat) × Unit) × (List Str) × (List Str) × (List Str)) ⊕ ((((List Rat) × Unit) × ((List Str) × (List Rat) × Unit) × (List Str) × (List Str) × (List Str))))
  | (x2, v, v1, xs, xs1, xs2) =>
    .ite (decide (x2 < x1))
      (.obl (idxOk x2 (List.length x)) <|
        .obl (appOk (List.length xs2) (List.length xs2) (0 : Nat) (List.length xs2) (List.length xs2) (1 : Nat) (16 : Nat)) <|
        .obl (curOk (List.length xs) (0 : Nat) (List.length xs) (List.length xs)) <|
        .obl (curOk (List.length xs1) (0 : Nat) (List.length xs1) (List.length xs1)) <|
        .obl (curOk ((List.length xs2) + (1 : Nat)) (0 : Nat) ((List.length xs2) + (1 : Nat)) (List.length (xs2 ++ ([(nth x x2 (dflt tyParam)).1] : List Str)))) <|
        .obl ((List.length xs) = (List.length xs)) <|
        .obl ((List.length xs1) = (List.length xs1)) <|
        .obl (((List.length xs2) + (1 : Nat)) = (List.length (xs2 ++ ([(nth x x2 (dflt tyParam)).1] : List Str)))) <|
        .ret (.inl ((w64 (x2 + (1 : Int))), ((v.1, ()), ((v1.1, (v1.2.1, ())), (xs, (xs1, (xs2 ++ ([(nth x x2 (dflt tyParam)).1] : List Str)))))))))
      (.obl (curOk (List.length xs) (0 : Nat) (List.length xs) (List.length xs)) <|
        .obl (curOk (List.length xs1) (0 : Nat) (List.length xs1) (List.length xs1)) <|
        .obl (curOk (List.length xs2) (0 : Nat) (List.length xs2) (List.length xs2)) <|
        .obl ((List.length xs) = (List.length xs)) <|
        .obl ((List.length xs1) = (List.length xs1)) <|
        .obl ((List.length xs2) = (List.length xs2)) <|
        .ret (.inr ((v.1, ()), ((v1.1, (v1.2.1, ())), (xs, (xs1, xs2))))))
noncomputable def elab_Env_L0 (x : (List Param)) (x1 : Int) (s : (Int × ((List Rat) × Unit) × ((List Str) × (List Rat) × Unit) × (List Str) × (List Str) × (List Str))) : T ((((List Rat) × Unit) × ((List Str) × (List Rat) × Unit) × (List Str) × (List Str) × (List Str))) := T.loop (elab_Env_R0 x x1) s
noncomputable def elab_Env (f : Form) (params : (List Rat)) : T aff_Env :=
  T.bind (elab_Fields f) fun r =>
  T.bind (slices_Clone_sl_Rat params) fun r1 =>
  .obl (curOk (0 : Nat) (0 : Nat) (0 : Nat) (0 : Nat)) <|
  .obl (curOk (0 : Nat) (0 : Nat) (0 : Nat) (0 : Nat)) <|
  .obl (curOk (0 : Nat) (0 : Nat) (0 : Nat) (0 : Nat)) <|
  .obl ((0 : Nat) = (0 : Nat)) <|
  .obl ((0 : Nat) = (0 : Nat)) <|
  .obl ((0 : Nat) = (0 : Nat)) <|
  T.bind (elab_Env_L0 f.2.1 (Nat.cast (List.length f.2.1) : Int) ((0 : Int), ((([] : List Rat), ()), ((r, (r1, ())), (([] : List Str), (([] : List Str), ([] : List Str))))))) fun (v2, v3, xs3, xs4, xs5) =>
  .obl ((List.length xs5) = (List.length xs5)) <|
  .ret (v3.1, ((List.drop (0 : Nat) (List.take ((0 : Nat) + (List.length xs5)) xs5)), (v3.2.1, ())))
/-- pantograph/page.Relevant$1 -/
noncomputable def page_Relevant_f1 (s : Switch) (c1 : Page) : T Bool :=
  .ret (strEq s.1 c1.2.1)
/-- slices.IndexFunc[[]pantograph/api.Switch,pantograph/api.Switch] -/
noncomputable def slices_IndexFunc_sl_Switch_R0 (s1 : (List Switch)) (f : Switch → T Bool) (x : Int) : Int → T (Int ⊕ (Unit ⊕ Int))
  | x1 =>
    .ite (decide (x1 < x))
      (.obl (idxOk x1 (List.length s1)) <|
        T.bind (f (nth s1 x1 (dflt tySwitch))) fun r =>
        .ite r
          (.ret (.inr (.inr x1)))
          (.ret (.inl (w64 (x1 + (1 : Int))))))
      (.ret (.inr (.inl ())))
noncomputable def slices_IndexFunc_sl_Switch_L0 (s1 : (List Switch)) (f : Switch → T Bool) (x : Int) (s : Int) : T (Unit ⊕ Int) := T.loop (slices_IndexFunc_sl_Switch_R0 s1 f x) s
noncomputable def slices_IndexFunc_sl_Switch (s : (List Switch)) (f : Switch → T Bool) : T Int :=
  T.bind (slices_IndexFunc_sl_Switch_L0 s f (Nat.cast (List.length s) : Int) (0 : Int)) <|
    Sum.elim (fun _ =>
      .ret (-1 : Int))
    (fun x2 =>
      .ret x2)
/-- pantograph/page.Relevant -/
noncomputable def page_Relevant_R0 (on1 : (List Bool)) (f1 : Form) (x : (List Page)) (x1 : Int) : (Int × (List Bool)) → T ((Int × (List Bool)) ⊕ ((List Bool)))
  | (x2, xs) =>
    .ite (decide (x2 < x1))
      (.obl (idxOk x2 (List.length x)) <|
        T.bind (slices_IndexFunc_sl_Switch f1.1 (fun z0 => page_Relevant_f1 z0 (nth x x2 (dflt tyPage)))) fun i =>
        .ite (strEq (nth x x2 (dflt tyPage)).2.1 ([] : Str))
          (.obl (appOk (List.length xs) (List.length xs) (0 : Nat) (List.length xs) (List.length xs) (1 : Nat) (1 : Nat)) <|
            .obl (curOk ((List.length xs) + (1 : Nat)) (0 : Nat) ((List.length xs) + (1 : Nat)) (List.length (xs ++ ([true] : List Bool)))) <|
            .obl (((List.length xs) + (1 : Nat)) = (List.length (xs ++ ([true] : List Bool)))) <|
            .ret (.inl ((w64 (x2 + (1 : Int))), (xs ++ ([true] : List Bool)))))
          (.ite (decide ((0 : Int) ≤ i))
              (.ite (decide (i < (Nat.cast (List.length on1) : Int)))
                  (.obl (idxOk i (List.length on1)) <|
                    .obl (appOk (List.length xs) (List.length xs) (0 : Nat) (List.length xs) (List.length xs) (1 : Nat) (1 : Nat)) <|
                    .obl (curOk ((List.length xs) + (1 : Nat)) (0 : Nat) ((List.length xs) + (1 : Nat)) (List.length (xs ++ ([(nth on1 i (dflt .bool))] : List Bool)))) <|
                    .obl (((List.length xs) + (1 : Nat)) = (List.length (xs ++ ([(nth on1 i (dflt .bool))] : List Bool)))) <|
                    .ret (.inl ((w64 (x2 + (1 : Int))), (xs ++ ([(nth on1 i (dflt .bool))] : List Bool)))))
                  (.obl (appOk (List.length xs) (List.length xs) (0 : Nat) (List.length xs) (List.length xs) (1 : Nat) (1 : Nat)) <|
                    .obl (curOk ((List.length xs) + (1 : Nat)) (0 : Nat) ((List.length xs) + (1 : Nat)) (List.length (xs ++ ([false] : List Bool)))) <|
                    .obl (((List.length xs) + (1 : Nat)) = (List.length (xs ++ ([false] : List Bool)))) <|
                    .ret (.inl ((w64 (x2 + (1 : Int))), (xs ++ ([false] : List Bool))))))
              (.obl (appOk (List.length xs) (List.length xs) (0 : Nat) (List.length xs) (List.length xs) (1 : Nat) (1 : Nat)) <|
                .obl (curOk ((List.length xs) + (1 : Nat)) (0 : Nat) ((List.length xs) + (1 : Nat)) (List.length (xs ++ ([false] : List Bool)))) <|
                .obl (((List.length xs) + (1 : Nat)) = (List.length (xs ++ ([false] : List Bool)))) <|
                .ret (.inl ((w64 (x2 + (1 : Int))), (xs ++ ([false] : List Bool)))))))
      (.obl (curOk (List.length xs) (0 : Nat) (List.length xs) (List.length xs)) <|
        .obl ((List.length xs) = (List.length xs)) <|
        .ret (.inr xs))
noncomputable def page_Relevant_L0 (on1 : (List Bool)) (f1 : Form) (x : (List Page)) (x1 : Int) (s : (Int × (List Bool))) : T ((List Bool)) := T.loop (page_Relevant_R0 on1 f1 x x1) s
noncomputable def page_Relevant (f : Form) (on : (List Bool)) : T (List Bool) :=
  .obl (curOk (0 : Nat) (0 : Nat) (0 : Nat) (0 : Nat)) <|
  .obl ((0 : Nat) = (0 : Nat)) <|
  T.bind (page_Relevant_L0 on f f.2.2.1 (Nat.cast (List.length f.2.2.1) : Int) ((0 : Int), ([] : List Bool))) fun xs1 =>
  .obl ((List.length xs1) = (List.length xs1)) <|
  .ret (List.drop (0 : Nat) (List.take ((0 : Nat) + (List.length xs1)) xs1))
/-- pantograph/expr.kids -/
noncomputable def expr_kids (kind : Int) : T Int :=
  .ite (bif (kind == (1 : Int)) then (kind == (1 : Int)) else (kind == (2 : Int)))
    (.ret (0 : Int))
    (.ite (kind == (7 : Int))
        (.ret (1 : Int))
        (.ite (kind == (3 : Int))
            (.ret (2 : Int))
            (.ite (kind == (4 : Int))
                (.ret (2 : Int))
                (.ite (kind == (5 : Int))
                    (.ret (2 : Int))
                    (.ite (kind == (6 : Int))
                        (.ret (2 : Int))
                        (.ret (-1 : Int)))))))
/-- pantograph/rat.Is -/
noncomputable def rat_Is (a : Rat) : T Bool :=
  T.bind (T.bind (nat_Is a.2.1) fun r =>
      .ite (!r)
        (.ret true)
        (T.bind (nat_Is a.2.2.1) fun r1 =>
          .ite (!r1)
            (.ret true)
            (.ite ((Nat.cast (List.length a.2.2.1) : Int) == (0 : Int))
                (.ret true)
                (.ite a.1
                    (.ret ((Nat.cast (List.length a.2.1) : Int) == (0 : Int)))
                    (.ret false)))) : T (Bool)) fun x =>
  .ite x
    (.ret false)
    (T.bind (nat_Gcd a.2.1 a.2.2.1) fun r2 =>
      T.bind (nat_Of (1 : Int)) fun r3 =>
      T.bind (nat_Cmp r2 r3) fun r4 =>
      .ret (r4 == (0 : Int)))
/-- pantograph/rat.Large -/
noncomputable def rat_Large (a : Rat) : T Bool :=
  T.bind (rat_Norm a) fun r =>
  .ret ((decide ((16 : Int) < (Nat.cast (List.length r.2.1) : Int))) || (decide ((16 : Int) < (Nat.cast (List.length r.2.2.1) : Int))))
/-- pantograph/nat.Mul -/
noncomputable def nat_Mul_R1 (b3 : (List Int)) (i : Int) (v : Int) (x3 : (List Int)) (x4 : Int) (x5 : Int) (x6 : (List Int)) (x7 : Int) : (Int × Int × (List Int)) → T ((Int × Int × (List Int)) ⊕ ((Int × (List Int))))
  | (carry, x8, xs1) =>
    .ite (decide (x8 < x7))
      (.obl (idxOk x8 (List.length x6)) <|
        .obl (idxOk (w64 (i + x8)) (List.length xs1)) <|
        .obl (eOk (List.length xs1) (List.length xs1) ((0 : Nat) + (Int.toNat (w64 (i + x8)))) (List.length xs1)) <|
        .obl (idxOk (w64 (i + x8)) (List.length xs1)) <|
        .obl (eOk (List.length xs1) (List.length xs1) ((0 : Nat) + (Int.toNat (w64 (i + x8)))) (List.length xs1)) <|
        .obl ((0 : Int) ≤ (32 : Int)) <|
        .obl (curOk (List.length xs1) (0 : Nat) (List.length xs1) (List.length (List.set xs1 ((0 : Nat) + (Int.toNat (w64 (i + x8)))) (wu32 (wu64 (carry + (wu64 ((wu64 ((wu64 v) * (wu64 (nth x6 x8 (dflt (.int .u32)))))) + (wu64 (nthN xs1 ((0 : Nat) + (Int.toNat (w64 (i + x8)))) (dflt (.int .u32)))))))))))) <|
        .obl ((List.length xs1) = (List.length (List.set xs1 ((0 : Nat) + (Int.toNat (w64 (i + x8)))) (wu32 (wu64 (carry + (wu64 ((wu64 ((wu64 v) * (wu64 (nth x6 x8 (dflt (.int .u32)))))) + (wu64 (nthN xs1 ((0 : Nat) + (Int.toNat (w64 (i + x8)))) (dflt (.int .u32)))))))))))) <|
        .ret (.inl ((shrI .u64 (wu64 (carry + (wu64 ((wu64 ((wu64 v) * (wu64 (nth x6 x8 (dflt (.int .u32)))))) + (wu64 (nthN xs1 ((0 : Nat) + (Int.toNat (w64 (i + x8)))) (dflt (.int .u32)))))))) (32 : Int)), ((w64 (x8 + (1 : Int))), (List.set xs1 ((0 : Nat) + (Int.toNat (w64 (i + x8)))) (wu32 (wu64 (carry + (wu64 ((wu64 ((wu64 v) * (wu64 (nth x6 x8 (dflt (.int .u32)))))) + (wu64 (nthN xs1 ((0 : Nat) + (Int.toNat (w64 (i + x8)))) (dflt (.int .u32))))))))))))))
      (.obl (curOk (List.length xs1) (0 : Nat) (List.length xs1) (List.length xs1)) <|
        .obl ((List.length xs1) = (List.length xs1)) <|
        .ret (.inr (carry, xs1)))
noncomputable def nat_Mul_L1 (b3 : (List Int)) (i : Int) (v : Int) (x3 : (List Int)) (x4 : Int) (x5 : Int) (x6 : (List Int)) (x7 : Int) (s : (Int × Int × (List Int))) : T ((Int × (List Int))) := T.loop (nat_Mul_R1 b3 i v x3 x4 x5 x6 x7) s
noncomputable def nat_Mul_R0 (b2 : (List Int)) (x : (List Int)) (x1 : Int) : (Int × (List Int)) → T ((Int × (List Int)) ⊕ ((List Int)))
  | (x2, xs) =>
    .ite (decide (x2 < x1))
      (.obl (idxOk x2 (List.length x)) <|
        .obl (curOk (List.length xs) (0 : Nat) (List.length xs) (List.length xs)) <|
        .obl ((List.length xs) = (List.length xs)) <|
        T.bind (nat_Mul_L1 b2 x2 (nth x x2 (dflt (.int .u32))) x x1 x2 b2 (Nat.cast (List.length b2) : Int) ((0 : Int), ((0 : Int), xs))) fun (carry1, xs2) =>
        .obl (idxOk (w64 (x2 + (Nat.cast (List.length b2) : Int))) (List.length xs2)) <|
        .obl (eOk (List.length xs2) (List.length xs2) ((0 : Nat) + (Int.toNat (w64 (x2 + (Nat.cast (List.length b2) : Int))))) (List.length xs2)) <|
        .obl (curOk (List.length xs2) (0 : Nat) (List.length xs2) (List.length (List.set xs2 ((0 : Nat) + (Int.toNat (w64 (x2 + (Nat.cast (List.length b2) : Int))))) (wu32 carry1)))) <|
        .obl ((List.length xs2) = (List.length (List.set xs2 ((0 : Nat) + (Int.toNat (w64 (x2 + (Nat.cast (List.length b2) : Int))))) (wu32 carry1)))) <|
        .ret (.inl ((w64 (x2 + (1 : Int))), (List.set xs2 ((0 : Nat) + (Int.toNat (w64 (x2 + (Nat.cast (List.length b2) : Int))))) (wu32 carry1)))))
      (.obl (curOk (List.length xs) (0 : Nat) (List.length xs) (List.length xs)) <|
        .obl ((List.length xs) = (List.length xs)) <|
        .ret (.inr xs))
noncomputable def nat_Mul_L0 (b2 : (List Int)) (x : (List Int)) (x1 : Int) (s : (Int × (List Int))) : T ((List Int)) := T.loop (nat_Mul_R0 b2 x x1) s
noncomputable def nat_Mul (a : (List Int)) (b : (List Int)) : T (List Int) :=
  T.bind (nat_trim a) fun a1 =>
  T.bind (nat_trim b) fun b1 =>
  .obl (mkOk (w64 ((Nat.cast (List.length a1) : Int) + (Nat.cast (List.length b1) : Int))) (w64 ((Nat.cast (List.length a1) : Int) + (Nat.cast (List.length b1) : Int))) (4 : Nat)) <|
  .obl (curOk (Int.toNat (w64 ((Nat.cast (List.length a1) : Int) + (Nat.cast (List.length b1) : Int)))) (0 : Nat) (Int.toNat (w64 ((Nat.cast (List.length a1) : Int) + (Nat.cast (List.length b1) : Int)))) (List.length (List.replicate (Int.toNat (w64 ((Nat.cast (List.length a1) : Int) + (Nat.cast (List.length b1) : Int)))) (0 : Int)))) <|
  .obl ((Int.toNat (w64 ((Nat.cast (List.length a1) : Int) + (Nat.cast (List.length b1) : Int)))) = (List.length (List.replicate (Int.toNat (w64 ((Nat.cast (List.length a1) : Int) + (Nat.cast (List.length b1) : Int)))) (0 : Int)))) <|
  T.bind (nat_Mul_L0 b1 a1 (Nat.cast (List.length a1) : Int) ((0 : Int), (List.replicate (Int.toNat (w64 ((Nat.cast (List.length a1) : Int) + (Nat.cast (List.length b1) : Int)))) (0 : Int)))) fun xs3 =>
  .obl ((List.length xs3) = (List.length xs3)) <|
  T.bind (nat_trim (List.drop (0 : Nat) (List.take ((0 : Nat) + (List.length xs3)) xs3))) fun r =>
  .ret r
/-- pantograph/dec.ten -/
noncomputable def dec_ten_R0 (x : Int) : ((List Int) × Int) → T (((List Int) × Int) ⊕ ((List Int)))
  | (a1, x1) =>
    .ite (decide (x1 < x))
      (T.bind (nat_Of (10 : Int)) fun r =>
        T.bind (nat_Mul a1 r) fun a2 =>
        .ret (.inl (a2, (w64 (x1 + (1 : Int))))))
      (.ret (.inr a1))
noncomputable def dec_ten_L0 (x : Int) (s : ((List Int) × Int)) : T ((List Int)) := T.loop (dec_ten_R0 x) s
noncomputable def dec_ten (n : Int) : T (List Int) :=
  T.bind (nat_Of (1 : Int)) fun a =>
  T.bind (dec_ten_L0 n (a, (0 : Int))) fun a3 =>
  .ret a3
/-- strings.Repeat -/
noncomputable def strings_Repeat (s : Str) (count : Int) : T Str :=
  .obl ((0 : Int) ≤ count ∧ count ≤ (9223372036854775807 : Int) ∧ (List.length s) * (Int.toNat count) ≤ (140737488355328 : Nat)) <|
  .ret (repS s (Int.toNat count))
/-- pantograph/dec.pointed -/
noncomputable def dec_pointed (s : Str) (n : Int) : T Str :=
  .ite (n == (0 : Int))
    (.ret s)
    (T.bind (strings_Repeat ([48] : Str) (maxI (0 : Int) (w64 ((w64 (n + (1 : Int))) - (Nat.cast (List.length s) : Int))))) fun r =>
      .obl (((List.length r) + (List.length s)) ≤ (4611686018427387904 : Nat)) <|
      .obl (slOk (0 : Int) (w64 ((Nat.cast (List.length (cat r s)) : Int) - n)) (List.length (cat r s))) <|
      .obl (((List.length (cutS (0 : Int) (w64 ((Nat.cast (List.length (cat r s)) : Int) - n)) (cat r s))) + (List.length ([46] : Str))) ≤ (4611686018427387904 : Nat)) <|
      .obl (slOk (w64 ((Nat.cast (List.length (cat r s)) : Int) - n)) (Nat.cast (List.length (cat r s)) : Int) (List.length (cat r s))) <|
      .obl (((List.length (cat (cutS (0 : Int) (w64 ((Nat.cast (List.length (cat r s)) : Int) - n)) (cat r s)) ([46] : Str))) + (List.length (cutS (w64 ((Nat.cast (List.length (cat r s)) : Int) - n)) (Nat.cast (List.length (cat r s)) : Int) (cat r s)))) ≤ (4611686018427387904 : Nat)) <|
      .ret (cat (cat (cutS (0 : Int) (w64 ((Nat.cast (List.length (cat r s)) : Int) - n)) (cat r s)) ([46] : Str)) (cutS (w64 ((Nat.cast (List.length (cat r s)) : Int) - n)) (Nat.cast (List.length (cat r s)) : Int) (cat r s))))
/-- pantograph/dec.Exact -/
noncomputable def dec_Exact_R0  : (Int × Rat) → T ((Int × Rat) ⊕ (Rat ⊕ (Str × Bool × Rat)))
  | (x, v) =>
    .ite (decide (x < (61 : Int)))
      (T.bind (dec_ten x) fun r1 =>
        T.bind (nat_Mul v.2.1 r1) fun r2 =>
        T.bind (nat_DivMod r2 v.2.2.1) fun (q, r3, r4) =>
        .ite ((Nat.cast (List.length r3) : Int) == (0 : Int))
          (T.bind (dec_sign v) fun r5 =>
            T.bind (nat_Print q) fun r6 =>
            T.bind (dec_pointed r6 x) fun r7 =>
            .obl (((List.length r5) + (List.length r7)) ≤ (4611686018427387904 : Nat)) <|
            .ret (.inr (.inr ((cat r5 r7), (true, v)))))
          (.ret (.inl ((w64 (x + (1 : Int))), v))))
      (.ret (.inr (.inl v)))
noncomputable def dec_Exact_L0  (s : (Int × Rat)) : T (Rat ⊕ (Str × Bool × Rat)) := T.loop (dec_Exact_R0 ) s
noncomputable def dec_Exact (a : Rat) : T (Str × Bool) :=
  T.bind (rat_Norm a) fun r =>
  T.bind (dec_Exact_L0  ((0 : Int), r)) <|
    Sum.elim (fun v1 =>
      .ret (([] : Str), false))
    (fun (x1, x2, v2) =>
      .ret (x1, x2))
/-- pantograph/expr.isNum -/
noncomputable def expr_isNum (a : Rat) : T Bool :=
  T.bind (T.bind (rat_Is a) fun r =>
      .ite (!r)
        (.ret true)
        (.ite a.1
            (.ret true)
            (T.bind (rat_Large a) fun r1 =>
              .ret r1)) : T (Bool)) fun x =>
  .ite x
    (.ret false)
    (T.bind (dec_Exact a) fun (r2, ok) =>
      .ret ok)
/-- pantograph/expr.isNone -/
noncomputable def expr_isNone (a : Rat) : T Bool :=
  .ite (!a.1)
    (.ite ((Nat.cast (List.length a.2.1) : Int) == (0 : Int))
        (.ite ((Nat.cast (List.length a.2.2.1) : Int) == (0 : Int))
            (.ret true)
            (T.bind (rat_Is a) fun r =>
              .ret r))
        (.ret false))
    (.ret false)
/-- pantograph/expr.isLetter -/
noncomputable def expr_isLetter (c : Int) : T Bool :=
  .ret ((decide ((97 : Int) ≤ c)) && (decide (c ≤ (122 : Int))))
/-- pantograph/expr.isDigit -/
noncomputable def expr_isDigit (c : Int) : T Bool :=
  .ret ((decide ((48 : Int) ≤ c)) && (decide (c ≤ (57 : Int))))
/-- pantograph/expr.isInner -/
noncomputable def expr_isInner (c : Int) : T Bool :=
  T.bind (expr_isLetter c) fun r =>
  .ite r
    (.ret true)
    (T.bind (expr_isDigit c) fun r1 =>
      .ite r1
        (.ret true)
        (.ret (c == (95 : Int))))
/-- pantograph/expr.Name -/
noncomputable def expr_Name_R0 (s1 : Str) (x1 : Int) : Int → T (Int ⊕ (Unit ⊕ Bool))
  | x2 =>
    .ite (decide (x2 < x1))
      (.obl (idxOk x2 (List.length s1)) <|
        T.bind (expr_isInner (byteAt s1 x2)) fun r1 =>
        .ite (!r1)
          (.ret (.inr (.inr false)))
          (.ret (.inl (w64 (x2 + (1 : Int))))))
      (.ret (.inr (.inl ())))
noncomputable def expr_Name_L0 (s1 : Str) (x1 : Int) (s : Int) : T (Unit ⊕ Bool) := T.loop (expr_Name_R0 s1 x1) s
noncomputable def expr_Name (s : Str) : T Bool :=
  T.bind (.ite (strEq s ([] : Str))
        (.ret true)
        (.ite (decide ((24 : Int) < (Nat.cast (List.length s) : Int)))
            (.ret true)
            (.obl (idxOk (0 : Int) (List.length s)) <|
              T.bind (expr_isLetter (byteAt s (0 : Int))) fun r =>
              .ret (!r))) : T (Bool)) fun x =>
  .ite x
    (.ret false)
    (T.bind (expr_Name_L0 s (Nat.cast (List.length s) : Int) (0 : Int)) <|
        Sum.elim (fun _ =>
          .ret true)
        (fun x3 =>
          .ret x3))
/-- pantograph/expr.isNode -/
noncomputable def expr_isNode (e : AM.Expr) : T Bool :=
  T.bind (expr_kids (Expr.kind e)) fun r =>
  .ite ((Nat.cast (List.length (Expr.kids e)) : Int) != r)
    (.ret false)
    (.ite ((Expr.kind e) == (1 : Int))
        (T.bind (expr_isNum (Expr.num e)) fun r1 =>
          .ite r1
            (.ret (strEq (Expr.name e) ([] : Str)))
            (.ret false))
        (.ite ((Expr.kind e) == (2 : Int))
            (T.bind (expr_isNone (Expr.num e)) fun r2 =>
              .ite r2
                (T.bind (expr_Name (Expr.name e)) fun r3 =>
                  .ret r3)
                (.ret false))
            (T.bind (expr_isNone (Expr.num e)) fun r4 =>
              .ite r4
                (.ret (strEq (Expr.name e) ([] : Str)))
                (.ret false))))
/-- pantograph/expr.may$1 -/
noncomputable def expr_may_f1_S (self_expr_may : AM.Expr → Int → Int → T (Bool × Int)) (k : AM.Expr) (a1 : Int) (v : Int) : T (Bool × Int) :=
  T.bind (self_expr_may k (w64 (a1 + (1 : Int))) v) fun (r, xs) =>
  .ret ((!r), xs)
/-- slices.IndexFunc[[]pantograph/api.Expr,pantograph/api.Expr] -/
noncomputable def slices_IndexFunc_sl_Expr_expr_may_f1_S_R0 (self_expr_may : AM.Expr → Int → Int → T (Bool × Int)) (s1 : (List AM.Expr)) (x : Int) : ((Int × Unit) × Int × Int) → T (((Int × Unit) × Int × Int) ⊕ (Int ⊕ (Int × Int)))
  | (f1, x1, v1) =>
    .ite (decide (x1 < x))
      (.obl (idxOk x1 (List.length s1)) <|
        T.bind ((expr_may_f1_S self_expr_may) (nth s1 x1 (dflt .expr)) f1.1 v1) fun (r, xs) =>
        .ite r
          (.ret (.inr (.inr (x1, xs))))
          (.ret (.inl ((f1.1, ()), ((w64 (x1 + (1 : Int))), xs)))))
      (.ret (.inr (.inl v1)))
noncomputable def slices_IndexFunc_sl_Expr_expr_may_f1_S_L0 (self_expr_may : AM.Expr → Int → Int → T (Bool × Int)) (s1 : (List AM.Expr)) (x : Int) (s : ((Int × Unit) × Int × Int)) : T (Int ⊕ (Int × Int)) := T.loop (slices_IndexFunc_sl_Expr_expr_may_f1_S_R0 self_expr_may s1 x) s
noncomputable def slices_IndexFunc_sl_Expr_expr_may_f1_S (self_expr_may : AM.Expr → Int → Int → T (Bool × Int)) (s : (List AM.Expr)) (f : (Int × Unit)) (v : Int) : T (Int × Int) :=
  T.bind (slices_IndexFunc_sl_Expr_expr_may_f1_S_L0 self_expr_may s (Nat.cast (List.length s) : Int) ((f.1, ()), ((0 : Int), v))) <|
    Sum.elim (fun v2 =>
      .ret ((-1 : Int), v2))
    (fun (x2, v3) =>
      .ret (x2, v3))
/-- slices.ContainsFunc[[]pantograph/api.Expr,pantograph/api.Expr] -/
noncomputable def slices_ContainsFunc_sl_Expr_expr_may_f1_S (self_expr_may : AM.Expr → Int → Int → T (Bool × Int)) (s : (List AM.Expr)) (f : (Int × Unit)) (v : Int) : T (Bool × Int) :=
  T.bind ((slices_IndexFunc_sl_Expr_expr_may_f1_S self_expr_may) s (f.1, ()) v) fun (r, xs) =>
  .ret ((decide ((0 : Int) ≤ r)), xs)
/-- pantograph/expr.may -/
noncomputable def expr_may_S_B (self_expr_may : AM.Expr → Int → Int → T (Bool × Int)) (e : AM.Expr) (deep : Int) (left : Int) : T (Bool × Int) :=
  T.bind (.ite (decide ((w64 (left - (1 : Int))) < (0 : Int)))
        (.ret (true, (w64 (left - (1 : Int)))))
        (.ite (decide ((32 : Int) ≤ deep))
            (.ret (true, (w64 (left - (1 : Int)))))
            (T.bind (expr_isNode e) fun r =>
              .ret ((!r), (w64 (left - (1 : Int)))))) : T ((Bool × Int))) fun (x, v) =>
  .ite x
    (.ret (false, v))
    (T.bind ((slices_ContainsFunc_sl_Expr_expr_may_f1_S self_expr_may) (Expr.kids e) (deep, ()) v) fun (r1, left1) =>
      .ret ((!r1), left1))
noncomputable def expr_may_S (e : AM.Expr) (deep : Int) (left : Int) : T (Bool × Int) := T.fix (fun F x => expr_may_S_B (fun y0 y1 y2 => F (y0, y1, y2)) x.1 x.2.1 x.2.2) (e, deep, left)
/-- pantograph/expr.Is -/
noncomputable def expr_Is (e : AM.Expr) : T Bool :=
  T.bind (expr_may_S e (0 : Int) (256 : Int)) fun (r, left) =>
  .ret r
/-- slices.Index[[]string,string] -/
noncomputable def slices_Index_sl_string_R0 (s1 : (List Str)) (v1 : Str) (x : Int) : Int → T (Int ⊕ (Unit ⊕ Int))
  | x1 =>
    .ite (decide (x1 < x))
      (.obl (idxOk x1 (List.length s1)) <|
        .ite (strEq v1 (nth s1 x1 (dflt .str)))
          (.ret (.inr (.inr x1)))
          (.ret (.inl (w64 (x1 + (1 : Int))))))
      (.ret (.inr (.inl ())))
noncomputable def slices_Index_sl_string_L0 (s1 : (List Str)) (v1 : Str) (x : Int) (s : Int) : T (Unit ⊕ Int) := T.loop (slices_Index_sl_string_R0 s1 v1 x) s
noncomputable def slices_Index_sl_string (s : (List Str)) (v : Str) : T Int :=
  T.bind (slices_Index_sl_string_L0 s v (Nat.cast (List.length s) : Int) (0 : Int)) <|
    Sum.elim (fun _ =>
      .ret (-1 : Int))
    (fun x2 =>
      .ret x2)
/-- pantograph/rat.Int -/
noncomputable def rat_Int (n : Int) : T Rat :=
  T.bind (nat_Of (bif (decide (n < (0 : Int))) then (wu64 ((0 : Int) - (wu64 n))) else (wu64 n))) fun r =>
  T.bind (nat_Of (1 : Int)) fun r1 =>
  .ret ((decide (n < (0 : Int))), (r, (r1, ())))
/-- pantograph/aff.value -/
noncomputable def aff_value (val : (List Rat)) (i : Int) : T Rat :=
  .ite ((decide (i < (0 : Int))) || (decide ((Nat.cast (List.length val) : Int) ≤ i)))
    (T.bind (rat_Int (0 : Int)) fun r =>
      .ret r)
    (.obl (idxOk i (List.length val)) <|
      T.bind (rat_Norm (nth val i (dflt tyRat))) fun r1 =>
      .ret r1)
/-- pantograph/aff.told -/
noncomputable def aff_told (name : Str) (v : aff_Env) (at_ : (List Rat)) : T (Rat × Int) :=
  T.bind (slices_Index_sl_string v.1 name) fun i =>
  .ite (decide ((0 : Int) ≤ i))
    (T.bind (aff_value at_ i) fun r =>
      .ret (r, (0 : Int)))
    (T.bind (slices_Index_sl_string v.2.1 name) fun i1 =>
      .ite (decide (i1 < (0 : Int)))
        (.ret ((false, (([] : List Int), (([] : List Int), ()))), (5 : Int)))
        (T.bind (aff_value v.2.2.1 i1) fun r1 =>
          .ret (r1, (0 : Int))))
/-- pantograph/rat.signed -/
noncomputable def rat_signed (neg : Bool) (a : Rat) : T Rat :=
  T.bind (.ite neg
        (.ret (((decide ((0 : Int) < (Nat.cast (List.length a.2.1) : Int))), (a.2.1, (a.2.2.1, ()))), (false, (([] : List Int), (([] : List Int), ())))))
        (.ret ((false, (a.2.1, (a.2.2.1, ()))), (false, (([] : List Int), (([] : List Int), ()))))) : T ((Rat × Rat))) fun (v, v1) =>
  .ret v
/-- pantograph/rat.Neg -/
noncomputable def rat_Neg (a : Rat) : T Rat :=
  T.bind (rat_Norm a) fun r =>
  T.bind (rat_signed (!r.1) r) fun r1 =>
  .ret r1
/-- pantograph/nat.Add -/
noncomputable def nat_Add_R0 (a2 : (List Int)) (b2 : (List Int)) (x : (List Int)) (x1 : Int) : (Int × Int × (List Int)) → T ((Int × Int × (List Int)) ⊕ ((Int × (List Int))))
  | (carry, x2, xs) =>
    .ite (decide (x2 < x1))
      (.obl (idxOk x2 (List.length x)) <|
        .obl (((decide (x2 < (Nat.cast (List.length b2) : Int))) = true) → (idxOk x2 (List.length b2))) <|
        .obl (idxOk x2 (List.length xs)) <|
        .obl (eOk (List.length xs) (List.length xs) ((0 : Nat) + (Int.toNat x2)) (List.length xs)) <|
        .obl ((0 : Int) ≤ (32 : Int)) <|
        .obl (curOk (List.length xs) (0 : Nat) (List.length xs) (List.length (List.set xs ((0 : Nat) + (Int.toNat x2)) (wu32 (bif (decide (x2 < (Nat.cast (List.length b2) : Int))) then (wu64 ((wu64 (carry + (wu64 (nth x x2 (dflt (.int .u32)))))) + (wu64 (nth b2 x2 (dflt (.int .u32)))))) else (wu64 (carry + (wu64 (nth x x2 (dflt (.int .u32))))))))))) <|
        .obl ((List.length xs) = (List.length (List.set xs ((0 : Nat) + (Int.toNat x2)) (wu32 (bif (decide (x2 < (Nat.cast (List.length b2) : Int))) then (wu64 ((wu64 (carry + (wu64 (nth x x2 (dflt (.int .u32)))))) + (wu64 (nth b2 x2 (dflt (.int .u32)))))) else (wu64 (carry + (wu64 (nth x x2 (dflt (.int .u32))))))))))) <|
        .ret (.inl ((shrI .u64 (bif (decide (x2 < (Nat.cast (List.length b2) : Int))) then (wu64 ((wu64 (carry + (wu64 (nth x x2 (dflt (.int .u32)))))) + (wu64 (nth b2 x2 (dflt (.int .u32)))))) else (wu64 (carry + (wu64 (nth x x2 (dflt (.int .u32))))))) (32 : Int)), ((w64 (x2 + (1 : Int))), (List.set xs ((0 : Nat) + (Int.toNat x2)) (wu32 (bif (decide (x2 < (Nat.cast (List.length b2) : Int))) then (wu64 ((wu64 (carry + (wu64 (nth x x2 (dflt (.int .u32)))))) + (wu64 (nth b2 x2 (dflt (.int .u32)))))) else (wu64 (carry + (wu64 (nth x x2 (dflt (.int .u32)))))))))))))
      (.obl (curOk (List.length xs) (0 : Nat) (List.length xs) (List.length xs)) <|
        .obl ((List.length xs) = (List.length xs)) <|
        .ret (.inr (carry, xs)))
noncomputable def nat_Add_L0 (a2 : (List Int)) (b2 : (List Int)) (x : (List Int)) (x1 : Int) (s : (Int × Int × (List Int))) : T ((Int × (List Int))) := T.loop (nat_Add_R0 a2 b2 x x1) s
noncomputable def nat_Add (a : (List Int)) (b : (List Int)) : T (List Int) :=
  T.bind (nat_trim a) fun a1 =>
  T.bind (nat_trim b) fun b1 =>
  .obl (mkOk (w64 ((Nat.cast (List.length (bif (decide ((Nat.cast (List.length a1) : Int) < (Nat.cast (List.length b1) : Int))) then b1 else a1)) : Int) + (1 : Int))) (w64 ((Nat.cast (List.length (bif (decide ((Nat.cast (List.length a1) : Int) < (Nat.cast (List.length b1) : Int))) then b1 else a1)) : Int) + (1 : Int))) (4 : Nat)) <|
  .obl (curOk (Int.toNat (w64 ((Nat.cast (List.length (bif (decide ((Nat.cast (List.length a1) : Int) < (Nat.cast (List.length b1) : Int))) then b1 else a1)) : Int) + (1 : Int)))) (0 : Nat) (Int.toNat (w64 ((Nat.cast (List.length (bif (decide ((Nat.cast (List.length a1) : Int) < (Nat.cast (List.length b1) : Int))) then b1 else a1)) : Int) + (1 : Int)))) (List.length (List.replicate (Int.toNat (w64 ((Nat.cast (List.length (bif (decide ((Nat.cast (List.length a1) : Int) < (Nat.cast (List.length b1) : Int))) then b1 else a1)) : Int) + (1 : Int)))) (0 : Int)))) <|
  .obl ((Int.toNat (w64 ((Nat.cast (List.length (bif (decide ((Nat.cast (List.length a1) : Int) < (Nat.cast (List.length b1) : Int))) then b1 else a1)) : Int) + (1 : Int)))) = (List.length (List.replicate (Int.toNat (w64 ((Nat.cast (List.length (bif (decide ((Nat.cast (List.length a1) : Int) < (Nat.cast (List.length b1) : Int))) then b1 else a1)) : Int) + (1 : Int)))) (0 : Int)))) <|
  T.bind (nat_Add_L0 (bif (decide ((Nat.cast (List.length a1) : Int) < (Nat.cast (List.length b1) : Int))) then b1 else a1) (bif (decide ((Nat.cast (List.length a1) : Int) < (Nat.cast (List.length b1) : Int))) then a1 else b1) (bif (decide ((Nat.cast (List.length a1) : Int) < (Nat.cast (List.length b1) : Int))) then b1 else a1) (Nat.cast (List.length (bif (decide ((Nat.cast (List.length a1) : Int) < (Nat.cast (List.length b1) : Int))) then b1 else a1)) : Int) ((0 : Int), ((0 : Int), (List.replicate (Int.toNat (w64 ((Nat.cast (List.length (bif (decide ((Nat.cast (List.length a1) : Int) < (Nat.cast (List.length b1) : Int))) then b1 else a1)) : Int) + (1 : Int)))) (0 : Int))))) fun (carry1, xs1) =>
  .obl (idxOk (Nat.cast (List.length (bif (decide ((Nat.cast (List.length a1) : Int) < (Nat.cast (List.length b1) : Int))) then b1 else a1)) : Int) (List.length xs1)) <|
  .obl (eOk (List.length xs1) (List.length xs1) ((0 : Nat) + (Int.toNat (Nat.cast (List.length (bif (decide ((Nat.cast (List.length a1) : Int) < (Nat.cast (List.length b1) : Int))) then b1 else a1)) : Int))) (List.length xs1)) <|
  .obl ((List.length xs1) = (List.length xs1)) <|
  T.bind (nat_trim (List.drop (0 : Nat) (List.take ((0 : Nat) + (List.length xs1)) (List.set xs1 ((0 : Nat) + (Int.toNat (Nat.cast (List.length (bif (decide ((Nat.cast (List.length a1) : Int) < (Nat.cast (List.length b1) : Int))) then b1 else a1)) : Int))) (wu32 carry1))))) fun r =>
  .ret r
/-- pantograph/nat.Sub -/
noncomputable def nat_Sub_R0 (b2 : (List Int)) (x : (List Int)) (x1 : Int) : (Int × Int × (List Int)) → T ((Int × Int × (List Int)) ⊕ ((List Int)))
  | (borrow, x2, xs) =>
    .ite (decide (x2 < x1))
      (.obl (idxOk x2 (List.length x)) <|
        .obl (((decide (x2 < (Nat.cast (List.length b2) : Int))) = true) → (idxOk x2 (List.length b2))) <|
        T.bind (math_bits_Sub32 (nth x x2 (dflt (.int .u32))) (bif (decide (x2 < (Nat.cast (List.length b2) : Int))) then (nth b2 x2 (dflt (.int .u32))) else (0 : Int)) borrow) fun (r1, borrow1) =>
        .obl (idxOk x2 (List.length xs)) <|
        .obl (eOk (List.length xs) (List.length xs) ((0 : Nat) + (Int.toNat x2)) (List.length xs)) <|
        .obl (curOk (List.length xs) (0 : Nat) (List.length xs) (List.length (List.set xs ((0 : Nat) + (Int.toNat x2)) r1))) <|
        .obl ((List.length xs) = (List.length (List.set xs ((0 : Nat) + (Int.toNat x2)) r1))) <|
        .ret (.inl (borrow1, ((w64 (x2 + (1 : Int))), (List.set xs ((0 : Nat) + (Int.toNat x2)) r1)))))
      (.obl (curOk (List.length xs) (0 : Nat) (List.length xs) (List.length xs)) <|
        .obl ((List.length xs) = (List.length xs)) <|
        .ret (.inr xs))
noncomputable def nat_Sub_L0 (b2 : (List Int)) (x : (List Int)) (x1 : Int) (s : (Int × Int × (List Int))) : T ((List Int)) := T.loop (nat_Sub_R0 b2 x x1) s
noncomputable def nat_Sub (a : (List Int)) (b : (List Int)) : T ((List Int) × Bool) :=
  T.bind (nat_Cmp a b) fun r =>
  .ite (decide (r < (0 : Int)))
    (.ret (([] : List Int), false))
    (T.bind (nat_trim a) fun a1 =>
      T.bind (nat_trim b) fun b1 =>
      .obl (mkOk (Nat.cast (List.length a1) : Int) (Nat.cast (List.length a1) : Int) (4 : Nat)) <|
      .obl (curOk (Int.toNat (Nat.cast (List.length a1) : Int)) (0 : Nat) (Int.toNat (Nat.cast (List.length a1) : Int)) (List.length (List.replicate (Int.toNat (Nat.cast (List.length a1) : Int)) (0 : Int)))) <|
      .obl ((Int.toNat (Nat.cast (List.length a1) : Int)) = (List.length (List.replicate (Int.toNat (Nat.cast (List.length a1) : Int)) (0 : Int)))) <|
      T.bind (nat_Sub_L0 b1 a1 (Nat.cast (List.length a1) : Int) ((0 : Int), ((0 : Int), (List.replicate (Int.toNat (Nat.cast (List.length a1) : Int)) (0 : Int))))) fun xs1 =>
      .obl ((List.length xs1) = (List.length xs1)) <|
      T.bind (nat_trim (List.drop (0 : Nat) (List.take ((0 : Nat) + (List.length xs1)) xs1))) fun r2 =>
      .ret (r2, true))
/-- pantograph/rat.Add -/
noncomputable def rat_Add (a : Rat) (b : Rat) : T Rat :=
  T.bind (rat_Norm a) fun r =>
  T.bind (rat_Norm b) fun r1 =>
  T.bind (nat_Mul r.2.1 r1.2.2.1) fun n =>
  T.bind (nat_Mul r1.2.1 r.2.2.1) fun m =>
  T.bind (nat_Mul r.2.2.1 r1.2.2.1) fun d =>
  .ite (r.1 == r1.1)
    (T.bind (nat_Add n m) fun r2 =>
      T.bind (rat_Of r.1 r2 d) fun r3 =>
      .ret r3)
    (T.bind (nat_Sub n m) fun (x, ok) =>
      .ite ok
        (T.bind (rat_Of r.1 x d) fun r4 =>
          .ret r4)
        (T.bind (nat_Sub m n) fun (x1, r5) =>
          T.bind (rat_Of r1.1 x1 d) fun r6 =>
          .ret r6))
/-- pantograph/rat.Sub -/
noncomputable def rat_Sub (a : Rat) (b : Rat) : T Rat :=
  T.bind (rat_Neg b) fun r =>
  T.bind (rat_Add a r) fun r1 =>
  .ret r1
/-- pantograph/rat.Mul -/
noncomputable def rat_Mul (a : Rat) (b : Rat) : T Rat :=
  T.bind (rat_Norm a) fun r =>
  T.bind (rat_Norm b) fun r1 =>
  T.bind (nat_Mul r.2.1 r1.2.1) fun r2 =>
  T.bind (nat_Mul r.2.2.1 r1.2.2.1) fun r3 =>
  T.bind (rat_Of (!(r.1 == r1.1)) r2 r3) fun r4 =>
  .ret r4
/-- pantograph/rat.Div -/
noncomputable def rat_Div (a : Rat) (b : Rat) : T (Rat × Bool) :=
  T.bind (rat_Norm b) fun r =>
  .ite ((Nat.cast (List.length r.2.1) : Int) == (0 : Int))
    (T.bind (rat_Int (0 : Int)) fun r1 =>
      .ret (r1, false))
    (T.bind (rat_Mul a (r.1, (r.2.2.1, (r.2.1, ())))) fun r2 =>
      .ret (r2, true))
/-- pantograph/aff.number -/
noncomputable def aff_number_B (self_aff_number : AM.Expr → aff_Env → (List Rat) → T (Rat × Int)) (e : AM.Expr) (v : aff_Env) (at_ : (List Rat)) : T (Rat × Int) :=
  .ite ((Expr.kind e) == (1 : Int))
    (T.bind (rat_Norm (Expr.num e)) fun r =>
      .ret (r, (0 : Int)))
    (.ite ((Expr.kind e) == (2 : Int))
        (T.bind (aff_told (Expr.name e) v at_) fun (r1, r2) =>
          .ret (r1, r2))
        (.obl (idxOk (0 : Int) (List.length (Expr.kids e))) <|
          T.bind (self_aff_number (nth (Expr.kids e) (0 : Int) (dflt .expr)) v at_) fun (r3, x) =>
          .ite (x != (0 : Int))
            (.ret ((false, (([] : List Int), (([] : List Int), ()))), x))
            (.ite ((Expr.kind e) == (7 : Int))
                (T.bind (rat_Neg r3) fun r4 =>
                  .ret (r4, (0 : Int)))
                (.obl (idxOk (1 : Int) (List.length (Expr.kids e))) <|
                  T.bind (self_aff_number (nth (Expr.kids e) (1 : Int) (dflt .expr)) v at_) fun (r5, x1) =>
                  .ite (x1 != (0 : Int))
                    (.ret ((false, (([] : List Int), (([] : List Int), ()))), x1))
                    (.ite ((Expr.kind e) == (3 : Int))
                        (T.bind (rat_Add r3 r5) fun r6 =>
                          .ret (r6, (0 : Int)))
                        (.ite ((Expr.kind e) == (4 : Int))
                            (T.bind (rat_Sub r3 r5) fun r7 =>
                              .ret (r7, (0 : Int)))
                            (.ite ((Expr.kind e) == (5 : Int))
                                (T.bind (rat_Mul r3 r5) fun r8 =>
                                  .ret (r8, (0 : Int)))
                                (T.bind (rat_Div r3 r5) fun (r9, ok) =>
                                  .ite (!ok)
                                    (.ret ((false, (([] : List Int), (([] : List Int), ()))), (7 : Int)))
                                    (.ret (r9, (0 : Int)))))))))))
noncomputable def aff_number (e : AM.Expr) (v : aff_Env) (at_ : (List Rat)) : T (Rat × Int) := T.fix (fun F x => aff_number_B (fun y0 y1 y2 => F (y0, y1, y2)) x.1 x.2.1 x.2.2) (e, v, at_)
/-- pantograph/aff.Value -/
noncomputable def aff_Value (e : AM.Expr) (v : aff_Env) (at_ : (List Rat)) : T (Rat × Int) :=
  T.bind (expr_Is e) fun r =>
  .ite (!r)
    (.ret ((false, (([] : List Int), (([] : List Int), ()))), (5 : Int)))
    (T.bind (aff_number e v at_) fun (r1, r2) =>
      .ret (r1, r2))
/-- pantograph/rat.Cmp -/
noncomputable def rat_Cmp (a : Rat) (b : Rat) : T Int :=
  T.bind (rat_Sub a b) fun r =>
  .ite r.1
    (.ret (-1 : Int))
    (.ite (decide ((0 : Int) < (Nat.cast (List.length r.2.1) : Int)))
        (.ret (1 : Int))
        (.ret (0 : Int)))
/-- pantograph/record.fails -/
noncomputable def record_fails (c : Check) (v : aff_Env) (vals : (List Rat)) : T Bool :=
  T.bind (aff_Value c.2.2.2.1 v vals) fun (r, e) =>
  T.bind (aff_Value c.2.2.2.2.1 v vals) fun (r1, x) =>
  .ite ((e != (0 : Int)) || (x != (0 : Int)))
    (.ret true)
    (T.bind (rat_Cmp r r1) fun n =>
      .ite (c.2.2.1 == (0 : Int))
        (.ret (n != (0 : Int)))
        (.ite (c.2.2.1 == (1 : Int))
            (.ret (decide ((0 : Int) ≤ n)))
            (.ret (decide ((0 : Int) < n)))))
/-- pantograph/record.Missing -/
noncomputable def record_Missing_R1 (f2 : Form) (d2 : doc_Doc) (i : Int) (x3 : (List Bool)) (x4 : Int) (x5 : Int) (x6 : (List Field)) (x7 : Int) : (Int × aff_Env × (List Str)) → T ((Int × aff_Env × (List Str)) ⊕ ((aff_Env × (List Str))))
  | (x8, v1, xs1) =>
    .ite (decide (x8 < x7))
      (.obl (idxOk x8 (List.length x6)) <|
        .obl ((((nth x6 x8 (dflt tyField)).2.1 == i) = true) → (((nth x6 x8 (dflt tyField)).2.2.1 = true) → (((decide ((Nat.cast (List.length d2.2.2.2.2.2.1) : Int) ≤ x8)) = false) → (idxOk x8 (List.length d2.2.2.2.2.2.1))))) <|
        .ite (((nth x6 x8 (dflt tyField)).2.1 == i) && ((nth x6 x8 (dflt tyField)).2.2.1 && ((decide ((Nat.cast (List.length d2.2.2.2.2.2.1) : Int) ≤ x8)) || (!(nth d2.2.2.2.2.2.1 x8 (dflt .bool))))))
          (.obl (appOk (List.length xs1) (List.length xs1) (0 : Nat) (List.length xs1) (List.length xs1) (1 : Nat) (16 : Nat)) <|
            .obl (curOk ((List.length xs1) + (1 : Nat)) (0 : Nat) ((List.length xs1) + (1 : Nat)) (List.length (xs1 ++ ([(nth x6 x8 (dflt tyField)).1] : List Str)))) <|
            .obl (((List.length xs1) + (1 : Nat)) = (List.length (xs1 ++ ([(nth x6 x8 (dflt tyField)).1] : List Str)))) <|
            .ret (.inl ((w64 (x8 + (1 : Int))), (v1, (xs1 ++ ([(nth x6 x8 (dflt tyField)).1] : List Str))))))
          (.obl (curOk (List.length xs1) (0 : Nat) (List.length xs1) (List.length xs1)) <|
            .obl ((List.length xs1) = (List.length xs1)) <|
            .ret (.inl ((w64 (x8 + (1 : Int))), (v1, xs1)))))
      (.obl (curOk (List.length xs1) (0 : Nat) (List.length xs1) (List.length xs1)) <|
        .obl ((List.length xs1) = (List.length xs1)) <|
        .ret (.inr (v1, xs1)))
noncomputable def record_Missing_L1 (f2 : Form) (d2 : doc_Doc) (i : Int) (x3 : (List Bool)) (x4 : Int) (x5 : Int) (x6 : (List Field)) (x7 : Int) (s : (Int × aff_Env × (List Str))) : T ((aff_Env × (List Str))) := T.loop (record_Missing_R1 f2 d2 i x3 x4 x5 x6 x7) s
noncomputable def record_Missing_R2 (f3 : Form) (d3 : doc_Doc) (i1 : Int) (x9 : (List Bool)) (x10 : Int) (x11 : Int) (x12 : (List Check)) (x13 : Int) : (Int × aff_Env × (List Str)) → T ((Int × aff_Env × (List Str)) ⊕ ((aff_Env × (List Str))))
  | (x14, v3, xs3) =>
    .ite (decide (x14 < x13))
      (.obl (idxOk x14 (List.length x12)) <|
        T.bind (.ite ((nth x12 x14 (dflt tyCheck)).2.1 == i1)
              (T.bind (record_fails (nth x12 x14 (dflt tyCheck)) v3 d3.2.2.1) fun r2 =>
                .obl (curOk (List.length xs3) (0 : Nat) (List.length xs3) (List.length xs3)) <|
                .obl ((List.length xs3) = (List.length xs3)) <|
                .ret (r2, (v3, (xs3, (nth x12 x14 (dflt tyCheck))))))
              (.obl (curOk (List.length xs3) (0 : Nat) (List.length xs3) (List.length xs3)) <|
                .obl ((List.length xs3) = (List.length xs3)) <|
                .ret (false, (v3, (xs3, (nth x12 x14 (dflt tyCheck)))))) : T ((Bool × aff_Env × (List Str) × Check))) fun (x15, v4, xs4, v5) =>
        .ite x15
          (.obl (appOk (List.length xs4) (List.length xs4) (0 : Nat) (List.length xs4) (List.length xs4) (1 : Nat) (16 : Nat)) <|
            .obl (curOk ((List.length xs4) + (1 : Nat)) (0 : Nat) ((List.length xs4) + (1 : Nat)) (List.length (xs4 ++ ([v5.1] : List Str)))) <|
            .obl (((List.length xs4) + (1 : Nat)) = (List.length (xs4 ++ ([v5.1] : List Str)))) <|
            .ret (.inl ((w64 (x14 + (1 : Int))), (v4, (xs4 ++ ([v5.1] : List Str))))))
          (.obl (curOk (List.length xs4) (0 : Nat) (List.length xs4) (List.length xs4)) <|
            .obl ((List.length xs4) = (List.length xs4)) <|
            .ret (.inl ((w64 (x14 + (1 : Int))), (v4, xs4)))))
      (.obl (curOk (List.length xs3) (0 : Nat) (List.length xs3) (List.length xs3)) <|
        .obl ((List.length xs3) = (List.length xs3)) <|
        .ret (.inr (v3, xs3)))
noncomputable def record_Missing_L2 (f3 : Form) (d3 : doc_Doc) (i1 : Int) (x9 : (List Bool)) (x10 : Int) (x11 : Int) (x12 : (List Check)) (x13 : Int) (s : (Int × aff_Env × (List Str))) : T ((aff_Env × (List Str))) := T.loop (record_Missing_R2 f3 d3 i1 x9 x10 x11 x12 x13) s
noncomputable def record_Missing_R0 (f1 : Form) (d1 : doc_Doc) (x : (List Bool)) (x1 : Int) : (Int × aff_Env × (List Str)) → T ((Int × aff_Env × (List Str)) ⊕ ((aff_Env × (List Str))))
  | (x2, v, xs) =>
    .ite (decide (x2 < x1))
      (.obl (idxOk x2 (List.length x)) <|
        .ite (!(nth x x2 (dflt .bool)))
          (.obl (curOk (List.length xs) (0 : Nat) (List.length xs) (List.length xs)) <|
            .obl ((List.length xs) = (List.length xs)) <|
            .ret (.inl ((w64 (x2 + (1 : Int))), (v, xs))))
          (.obl (curOk (List.length xs) (0 : Nat) (List.length xs) (List.length xs)) <|
            .obl ((List.length xs) = (List.length xs)) <|
            T.bind (record_Missing_L1 f1 d1 x2 x x1 x2 f1.2.2.2.1 (Nat.cast (List.length f1.2.2.2.1) : Int) ((0 : Int), (v, xs))) fun (v2, xs2) =>
            .obl (curOk (List.length xs2) (0 : Nat) (List.length xs2) (List.length xs2)) <|
            .obl ((List.length xs2) = (List.length xs2)) <|
            T.bind (record_Missing_L2 f1 d1 x2 x x1 x2 f1.2.2.2.2.2.1 (Nat.cast (List.length f1.2.2.2.2.2.1) : Int) ((0 : Int), (v2, xs2))) fun (v6, xs5) =>
            .obl (curOk (List.length xs5) (0 : Nat) (List.length xs5) (List.length xs5)) <|
            .obl ((List.length xs5) = (List.length xs5)) <|
            .ret (.inl ((w64 (x2 + (1 : Int))), (v6, xs5)))))
      (.obl (curOk (List.length xs) (0 : Nat) (List.length xs) (List.length xs)) <|
        .obl ((List.length xs) = (List.length xs)) <|
        .ret (.inr (v, xs)))
noncomputable def record_Missing_L0 (f1 : Form) (d1 : doc_Doc) (x : (List Bool)) (x1 : Int) (s : (Int × aff_Env × (List Str))) : T ((aff_Env × (List Str))) := T.loop (record_Missing_R0 f1 d1 x x1) s
noncomputable def record_Missing (f : Form) (d : doc_Doc) : T (List Str) :=
  T.bind (elab_Env f d.1) fun r =>
  T.bind (page_Relevant f d.2.1) fun r1 =>
  .obl (curOk (0 : Nat) (0 : Nat) (0 : Nat) (0 : Nat)) <|
  .obl ((0 : Nat) = (0 : Nat)) <|
  T.bind (record_Missing_L0 f d r1 (Nat.cast (List.length r1) : Int) ((0 : Int), (r, ([] : List Str)))) fun (v7, xs6) =>
  .obl ((List.length xs6) = (List.length xs6)) <|
  .ret (List.drop (0 : Nat) (List.take ((0 : Nat) + (List.length xs6)) xs6))
/-- pantograph/pantographlaw21.texts -/
noncomputable def law21_texts_R0 (a1 : (List Str)) (b1 : (List Str)) : Int → T (Int ⊕ (Unit ⊕ Bool))
  | i =>
    .ite (decide (i < (Nat.cast (List.length a1) : Int)))
      (.obl (idxOk i (List.length a1)) <|
        .obl (idxOk i (List.length b1)) <|
        .ite (!(strEq (nth a1 i (dflt .str)) (nth b1 i (dflt .str))))
          (.ret (.inr (.inr false)))
          (.ret (.inl (w64 (i + (1 : Int))))))
      (.ret (.inr (.inl ())))
noncomputable def law21_texts_L0 (a1 : (List Str)) (b1 : (List Str)) (s : Int) : T (Unit ⊕ Bool) := T.loop (law21_texts_R0 a1 b1) s
noncomputable def law21_texts (a : (List Str)) (b : (List Str)) : T Bool :=
  .ite ((Nat.cast (List.length a) : Int) != (Nat.cast (List.length b) : Int))
    (.ret false)
    (T.bind (law21_texts_L0 a b (0 : Int)) <|
        Sum.elim (fun _ =>
          .ret true)
        (fun x =>
          .ret x))
/-- pantograph/record.Of -/
noncomputable def record_Of_R0 (d1 : doc_Doc) (on1 : (List Bool)) (x : (List Field)) (x1 : Int) : (Int × (List Param)) → T ((Int × (List Param)) ⊕ ((List Param)))
  | (x2, xs) =>
    .ite (decide (x2 < x1))
      (.obl (idxOk x2 (List.length x)) <|
        .obl (((decide ((nth x x2 (dflt tyField)).2.1 < (0 : Int))) = false) → (((decide ((Nat.cast (List.length on1) : Int) ≤ (nth x x2 (dflt tyField)).2.1)) = false) → (idxOk (nth x x2 (dflt tyField)).2.1 (List.length on1)))) <|
        .ite ((decide ((nth x x2 (dflt tyField)).2.1 < (0 : Int))) || ((decide ((Nat.cast (List.length on1) : Int) ≤ (nth x x2 (dflt tyField)).2.1)) || (!(nth on1 (nth x x2 (dflt tyField)).2.1 (dflt .bool)))))
          (.obl (curOk (List.length xs) (0 : Nat) (List.length xs) (List.length xs)) <|
            .obl ((List.length xs) = (List.length xs)) <|
            .ret (.inl ((w64 (x2 + (1 : Int))), xs)))
          (T.bind (rat_Int (0 : Int)) fun r =>
            T.bind (.ite (decide (x2 < (Nat.cast (List.length d1.2.2.1) : Int)))
                  (.obl (idxOk x2 (List.length d1.2.2.1)) <|
                    T.bind (rat_Norm (nth d1.2.2.1 x2 (dflt tyRat))) fun r1 =>
                    .obl (curOk (List.length xs) (0 : Nat) (List.length xs) (List.length xs)) <|
                    .obl ((List.length xs) = (List.length xs)) <|
                    .ret (xs, ((nth x x2 (dflt tyField)), r1)))
                  (.obl (curOk (List.length xs) (0 : Nat) (List.length xs) (List.length xs)) <|
                    .obl ((List.length xs) = (List.length xs)) <|
                    .ret (xs, ((nth x x2 (dflt tyField)), r))) : T (((List Param) × Field × Rat))) fun (xs1, v, v1) =>
            .obl (appOk (List.length xs1) (List.length xs1) (0 : Nat) (List.length xs1) (List.length xs1) (1 : Nat) (72 : Nat)) <|
            .obl (curOk ((List.length xs1) + (1 : Nat)) (0 : Nat) ((List.length xs1) + (1 : Nat)) (List.length (xs1 ++ ([(v.1, ((v1.1, (v1.2.1, (v1.2.2.1, ()))), ()))] : List Param)))) <|
            .obl (((List.length xs1) + (1 : Nat)) = (List.length (xs1 ++ ([(v.1, ((v1.1, (v1.2.1, (v1.2.2.1, ()))), ()))] : List Param)))) <|
            .ret (.inl ((w64 (x2 + (1 : Int))), (xs1 ++ ([(v.1, ((v1.1, (v1.2.1, (v1.2.2.1, ()))), ()))] : List Param))))))
      (.obl (curOk (List.length xs) (0 : Nat) (List.length xs) (List.length xs)) <|
        .obl ((List.length xs) = (List.length xs)) <|
        .ret (.inr xs))
noncomputable def record_Of_L0 (d1 : doc_Doc) (on1 : (List Bool)) (x : (List Field)) (x1 : Int) (s : (Int × (List Param))) : T ((List Param)) := T.loop (record_Of_R0 d1 on1 x x1) s
noncomputable def record_Of (f : Form) (d : doc_Doc) : T (List Param) :=
  T.bind (page_Relevant f d.2.1) fun on =>
  .obl (curOk (0 : Nat) (0 : Nat) (0 : Nat) (0 : Nat)) <|
  .obl ((0 : Nat) = (0 : Nat)) <|
  T.bind (record_Of_L0 d on f.2.2.2.1 (Nat.cast (List.length f.2.2.2.1) : Int) ((0 : Int), ([] : List Param))) fun xs2 =>
  .obl ((List.length xs2) = (List.length xs2)) <|
  .ret (List.drop (0 : Nat) (List.take ((0 : Nat) + (List.length xs2)) xs2))
/-- pantograph/pantographlaw21.RecordFilled -/
noncomputable def law21_RecordFilled_R0 (on1 : (List Bool)) : (Int × Form × (List Page)) → T ((Int × Form × (List Page)) ⊕ ((Form × (List Page))))
  | (i, v1, xs) =>
    .ite (decide (i < (Nat.cast (List.length xs) : Int)))
      (.obl (idxOk i (List.length xs)) <|
        .obl (eOk (List.length xs) (List.length xs) ((0 : Nat) + (Int.toNat i)) (List.length xs)) <|
        .obl (curOk (List.length xs) (0 : Nat) (List.length xs) (List.length (List.set xs ((0 : Nat) + (Int.toNat i)) ((nthN xs ((0 : Nat) + (Int.toNat i)) (dflt tyPage)).1, (([] : Str), ()))))) <|
        .obl ((List.length xs) = (List.length (List.set xs ((0 : Nat) + (Int.toNat i)) ((nthN xs ((0 : Nat) + (Int.toNat i)) (dflt tyPage)).1, (([] : Str), ()))))) <|
        .ret (.inl ((w64 (i + (1 : Int))), (v1, (List.set xs ((0 : Nat) + (Int.toNat i)) ((nthN xs ((0 : Nat) + (Int.toNat i)) (dflt tyPage)).1, (([] : Str), ())))))))
      (.obl (curOk (List.length xs) (0 : Nat) (List.length xs) (List.length xs)) <|
        .obl ((List.length xs) = (List.length xs)) <|
        .ret (.inr (v1, xs)))
noncomputable def law21_RecordFilled_L0 (on1 : (List Bool)) (s : (Int × Form × (List Page))) : T ((Form × (List Page))) := T.loop (law21_RecordFilled_R0 on1) s
noncomputable def law21_RecordFilled_R1 (on2 : (List Bool)) : (Int × ((List Switch) × (List Param) × (List Field) × (List Rule) × (List Check) × Unit) × (List Page) × ((List Rat) × (List Bool) × (List Rat) × (List Int) × (List doc_Pin) × Unit) × (List Bool) × (List Str)) → T ((Int × ((List Switch) × (List Param) × (List Field) × (List Rule) × (List Check) × Unit) × (List Page) × ((List Rat) × (List Bool) × (List Rat) × (List Int) × (List doc_Pin) × Unit) × (List Bool) × (List Str)) ⊕ ((((List Switch) × (List Param) × (List Field) × (List Rule) × (List Check) × Unit) × (List Page) × ((List Rat) × (List Bool) × (List Rat) × (List Int) × (List doc_Pin) × Unit) × (List Bool) × (List Str)) ⊕ (Bool × ((List Switch) × (List Param) × (List Field) × (List Rule) × (List Check) × Unit) × (List Page) × ((List Rat) × (List Bool) × (List Rat) × (List Int) × (List doc_Pin) × Unit) × (List Bool) × (List Str))))
  | (i1, v3, xs2, v4, xs3, xs4) =>
    .ite (decide (i1 < (Nat.cast (List.length v3.2.2.1) : Int)))
      (.obl ((idxOk i1 (List.length v3.2.2.1)) ∧ (((decide ((nth v3.2.2.1 i1 (dflt tyField)).2.1 < (0 : Int))) = false) → ((idxOk i1 (List.length v3.2.2.1)) ∧ (((decide ((Nat.cast (List.length xs2) : Int) ≤ (nth v3.2.2.1 i1 (dflt tyField)).2.1)) = false) → (((decide ((0 : Int) < i1)) = true) → ((idxOk i1 (List.length v3.2.2.1)) ∧ (idxOk (w64 (i1 - (1 : Int))) (List.length v3.2.2.1)))))))) <|
        .ite ((decide ((nth v3.2.2.1 i1 (dflt tyField)).2.1 < (0 : Int))) || ((decide ((Nat.cast (List.length xs2) : Int) ≤ (nth v3.2.2.1 i1 (dflt tyField)).2.1)) || ((decide ((0 : Int) < i1)) && (decide ((nth v3.2.2.1 i1 (dflt tyField)).2.1 < (nth v3.2.2.1 (w64 (i1 - (1 : Int))) (dflt tyField)).2.1)))))
          (T.bind (law21_known) fun r1 =>
            .obl (curOk (List.length xs2) (0 : Nat) (List.length xs2) (List.length xs2)) <|
            .obl ((List.length xs2) = (List.length xs2)) <|
            .obl (curOk (List.length xs3) (0 : Nat) (List.length xs3) (List.length xs3)) <|
            .obl ((List.length xs3) = (List.length xs3)) <|
            .obl ((List.length xs4) = (List.length xs4)) <|
            .ret (.inr (.inr (r1, ((v3.1, (v3.2.1, (v3.2.2.1, (v3.2.2.2.1, (v3.2.2.2.2.1, ()))))), (xs2, ((v4.1, (v4.2.1, (v4.2.2.1, (v4.2.2.2.1, (v4.2.2.2.2.1, ()))))), (xs3, xs4))))))))
          (.obl (appOk (List.length xs3) (List.length xs3) (0 : Nat) (List.length xs3) (List.length xs3) (1 : Nat) (1 : Nat)) <|
            .obl (idxOk i1 (List.length v3.2.2.1)) <|
            .ite (nth v3.2.2.1 i1 (dflt tyField)).2.2.1
              (.obl (idxOk i1 (List.length v3.2.2.1)) <|
                .obl (appOk (List.length xs4) (List.length xs4) (0 : Nat) (List.length xs4) (List.length xs4) (1 : Nat) (16 : Nat)) <|
                .obl (curOk ((List.length xs4) + (1 : Nat)) (0 : Nat) ((List.length xs4) + (1 : Nat)) (List.length (xs4 ++ ([(nth v3.2.2.1 i1 (dflt tyField)).1] : List Str)))) <|
                .obl (curOk (List.length xs2) (0 : Nat) (List.length xs2) (List.length xs2)) <|
                .obl ((List.length xs2) = (List.length xs2)) <|
                .obl (curOk ((List.length xs3) + (1 : Nat)) (0 : Nat) ((List.length xs3) + (1 : Nat)) (List.length (xs3 ++ ([true] : List Bool)))) <|
                .obl (((List.length xs3) + (1 : Nat)) = (List.length (xs3 ++ ([true] : List Bool)))) <|
                .obl (((List.length xs4) + (1 : Nat)) = (List.length (xs4 ++ ([(nth v3.2.2.1 i1 (dflt tyField)).1] : List Str)))) <|
                .ret (.inl ((w64 (i1 + (1 : Int))), ((v3.1, (v3.2.1, (v3.2.2.1, (v3.2.2.2.1, (v3.2.2.2.2.1, ()))))), (xs2, ((v4.1, (v4.2.1, (v4.2.2.1, (v4.2.2.2.1, (v4.2.2.2.2.1, ()))))), ((xs3 ++ ([true] : List Bool)), (xs4 ++ ([(nth v3.2.2.1 i1 (dflt tyField)).1] : List Str)))))))))
              (.obl (curOk (List.length xs4) (0 : Nat) (List.length xs4) (List.length xs4)) <|
                .obl (curOk (List.length xs2) (0 : Nat) (List.length xs2) (List.length xs2)) <|
                .obl ((List.length xs2) = (List.length xs2)) <|
                .obl (curOk ((List.length xs3) + (1 : Nat)) (0 : Nat) ((List.length xs3) + (1 : Nat)) (List.length (xs3 ++ ([true] : List Bool)))) <|
                .obl (((List.length xs3) + (1 : Nat)) = (List.length (xs3 ++ ([true] : List Bool)))) <|
                .obl ((List.length xs4) = (List.length xs4)) <|
                .ret (.inl ((w64 (i1 + (1 : Int))), ((v3.1, (v3.2.1, (v3.2.2.1, (v3.2.2.2.1, (v3.2.2.2.2.1, ()))))), (xs2, ((v4.1, (v4.2.1, (v4.2.2.1, (v4.2.2.2.1, (v4.2.2.2.2.1, ()))))), ((xs3 ++ ([true] : List Bool)), xs4)))))))))
      (.obl (curOk (List.length xs4) (0 : Nat) (List.length xs4) (List.length xs4)) <|
        .obl (curOk (List.length xs2) (0 : Nat) (List.length xs2) (List.length xs2)) <|
        .obl ((List.length xs2) = (List.length xs2)) <|
        .obl (curOk (List.length xs3) (0 : Nat) (List.length xs3) (List.length xs3)) <|
        .obl ((List.length xs3) = (List.length xs3)) <|
        .obl ((List.length xs4) = (List.length xs4)) <|
        .ret (.inr (.inl ((v3.1, (v3.2.1, (v3.2.2.1, (v3.2.2.2.1, (v3.2.2.2.2.1, ()))))), (xs2, ((v4.1, (v4.2.1, (v4.2.2.1, (v4.2.2.2.1, (v4.2.2.2.2.1, ()))))), (xs3, xs4)))))))
noncomputable def law21_RecordFilled_L1 (on2 : (List Bool)) (s : (Int × ((List Switch) × (List Param) × (List Field) × (List Rule) × (List Check) × Unit) × (List Page) × ((List Rat) × (List Bool) × (List Rat) × (List Int) × (List doc_Pin) × Unit) × (List Bool) × (List Str))) : T ((((List Switch) × (List Param) × (List Field) × (List Rule) × (List Check) × Unit) × (List Page) × ((List Rat) × (List Bool) × (List Rat) × (List Int) × (List doc_Pin) × Unit) × (List Bool) × (List Str)) ⊕ (Bool × ((List Switch) × (List Param) × (List Field) × (List Rule) × (List Check) × Unit) × (List Page) × ((List Rat) × (List Bool) × (List Rat) × (List Int) × (List doc_Pin) × Unit) × (List Bool) × (List Str))) := T.loop (law21_RecordFilled_R1 on2) s
noncomputable def law21_RecordFilled (f : Form) (on : (List Bool)) : T Bool :=
  T.bind (T.bind (law21_heavy f) fun r =>
      .ite r
        (.ret (true, f))
        (.ret ((decide ((20 : Int) < (Nat.cast (List.length on) : Int))), f)) : T ((Bool × Form))) fun (x, v) =>
  .ite x
    (.ret true)
    (.obl (appOk (0 : Nat) (0 : Nat) (0 : Nat) (0 : Nat) (0 : Nat) (List.length v.2.2.1) (32 : Nat)) <|
      .obl (curOk ((0 : Nat) + (List.length v.2.2.1)) (0 : Nat) ((0 : Nat) + (List.length v.2.2.1)) (List.length v.2.2.1)) <|
      .obl (((0 : Nat) + (List.length v.2.2.1)) = (List.length v.2.2.1)) <|
      T.bind (law21_RecordFilled_L0 on ((0 : Int), ((([] : List Switch), (v.2.1, (v.2.2.1, (v.2.2.2.1, (v.2.2.2.2.1, (([] : List Check), ())))))), v.2.2.1))) fun (v2, xs1) =>
      .obl (curOk (0 : Nat) (0 : Nat) (0 : Nat) (0 : Nat)) <|
      .obl (curOk (List.length xs1) (0 : Nat) (List.length xs1) (List.length xs1)) <|
      .obl ((List.length xs1) = (List.length xs1)) <|
      .obl (curOk (0 : Nat) (0 : Nat) (0 : Nat) (0 : Nat)) <|
      .obl ((0 : Nat) = (0 : Nat)) <|
      .obl ((0 : Nat) = (0 : Nat)) <|
      T.bind (law21_RecordFilled_L1 on ((0 : Int), ((v2.1, (v2.2.1, (v2.2.2.2.1, (v2.2.2.2.2.1, (v2.2.2.2.2.2.1, ()))))), (xs1, ((([] : List Rat), (on, (([] : List Rat), (([] : List Int), (([] : List doc_Pin), ()))))), (([] : List Bool), ([] : List Str))))))) <|
        Sum.elim (fun (v5, xs5, v6, xs6, xs7) =>
          .obl ((List.length xs5) = (List.length xs5)) <|
          .obl ((List.length xs6) = (List.length xs6)) <|
          T.bind (record_Missing (v5.1, (v5.2.1, ((List.drop (0 : Nat) (List.take ((0 : Nat) + (List.length xs5)) xs5)), (v5.2.2.1, (v5.2.2.2.1, (v5.2.2.2.2.1, ())))))) (v6.1, (v6.2.1, (v6.2.2.1, (v6.2.2.2.1, (v6.2.2.2.2.1, ((List.drop (0 : Nat) (List.take ((0 : Nat) + (List.length xs6)) xs6)), ()))))))) fun r2 =>
          .ite ((Nat.cast (List.length r2) : Int) == (0 : Int))
            (T.bind (record_Missing (v5.1, (v5.2.1, ((List.drop (0 : Nat) (List.take ((0 : Nat) + (List.length xs5)) xs5)), (v5.2.2.1, (v5.2.2.2.1, (v5.2.2.2.2.1, ())))))) (([] : List Rat), (on, (([] : List Rat), (([] : List Int), (([] : List doc_Pin), (([] : List Bool), ()))))))) fun r3 =>
              .obl ((List.length xs7) = (List.length xs7)) <|
              T.bind (law21_texts r3 (List.drop (0 : Nat) (List.take ((0 : Nat) + (List.length xs7)) xs7))) fun r4 =>
              .ite r4
                (T.bind (record_Of (v5.1, (v5.2.1, ((List.drop (0 : Nat) (List.take ((0 : Nat) + (List.length xs5)) xs5)), (v5.2.2.1, (v5.2.2.2.1, (v5.2.2.2.2.1, ())))))) (v6.1, (v6.2.1, (v6.2.2.1, (v6.2.2.2.1, (v6.2.2.2.2.1, ((List.drop (0 : Nat) (List.take ((0 : Nat) + (List.length xs6)) xs6)), ()))))))) fun r5 =>
                  .ite ((Nat.cast (List.length r5) : Int) == (Nat.cast (List.length v5.2.2.1) : Int))
                    (T.bind (law21_known) fun r6 =>
                      .ret r6)
                    (.ret false))
                (.ret false))
            (.ret false))
        (fun (x1, v7, xs8, v8, xs9, xs10) =>
          .ret x1))
end Go.AM.Lf
