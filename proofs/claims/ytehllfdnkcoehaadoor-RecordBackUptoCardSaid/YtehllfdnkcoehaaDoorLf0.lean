/-
  The program's functions as trees in plain Lean, part 0: printed by a program of ours.
-/
import Derived.Test.YtehllfdnkcoehaaDoorAmA
set_option linter.unusedVariables false
namespace Go.AM.Lf
abbrev tyerrors_errorString : Ty := (.cons .str .nil)
abbrev errors_errorString := den tyerrors_errorString
abbrev tyruntime_errorAddressString : Ty := (.cons .str (.cons (.int .u64) .nil))
abbrev runtime_errorAddressString := den tyruntime_errorAddressString
abbrev tyunicode_utf8_acceptRange : Ty := (.cons (.int .u8) (.cons (.int .u8) .nil))
abbrev unicode_utf8_acceptRange := den tyunicode_utf8_acceptRange
abbrev tyruntime_boundsError : Ty := (.cons (.int .i64) (.cons (.int .i64) (.cons .bool (.cons (.int .u8) .nil))))
abbrev runtime_boundsError := den tyruntime_boundsError
abbrev tyRat : Ty := (.cons .bool (.cons (.sl (.int .u32)) (.cons (.sl (.int .u32)) .nil)))
abbrev Rat := den tyRat
abbrev tyrecord_Item : Ty := (.cons .str (.cons tyRat .nil))
abbrev record_Item := den tyrecord_Item
/-- pantograph/pantographlaw21.long -/
noncomputable def law21_long_R0 (l1 : (List record_Item)) : Int → T (Int ⊕ (Unit ⊕ Bool))
  | i =>
    .ite (decide (i < (Nat.cast (List.length l1) : Int)))
      (.obl (((decide ((30 : Int) < i)) = false) → ((idxOk i (List.length l1)) ∧ (((decide ((60 : Int) < (Nat.cast (List.length (nth l1 i (dflt tyrecord_Item)).1) : Int))) = false) → ((idxOk i (List.length l1)) ∧ (((decide ((3 : Int) < (Nat.cast (List.length (nth l1 i (dflt tyrecord_Item)).2.1.2.1) : Int))) = false) → (idxOk i (List.length l1))))))) <|
        .ite ((decide ((30 : Int) < i)) || ((decide ((60 : Int) < (Nat.cast (List.length (nth l1 i (dflt tyrecord_Item)).1) : Int))) || ((decide ((3 : Int) < (Nat.cast (List.length (nth l1 i (dflt tyrecord_Item)).2.1.2.1) : Int))) || (decide ((3 : Int) < (Nat.cast (List.length (nth l1 i (dflt tyrecord_Item)).2.1.2.2.1) : Int))))))
          (.ret (.inr (.inr true)))
          (.ret (.inl (w64 (i + (1 : Int))))))
      (.ret (.inr (.inl ())))
noncomputable def law21_long_L0 (l1 : (List record_Item)) (s : Int) : T (Unit ⊕ Bool) := T.loop (law21_long_R0 l1) s
noncomputable def law21_long (l : (List record_Item)) : T Bool :=
  T.bind (law21_long_L0 l (0 : Int)) <|
    Sum.elim (fun _ =>
      .ret false)
    (fun x =>
      .ret x)
/-- pantograph/pantographref5.letter -/
noncomputable def ref5_letter (c : Int) : T Bool :=
  .ret ((decide ((97 : Int) ≤ c)) && (decide (c ≤ (122 : Int))))
/-- pantograph/pantographref5.digit -/
noncomputable def ref5_digit (c : Int) : T Bool :=
  .ret ((decide ((48 : Int) ≤ c)) && (decide (c ≤ (57 : Int))))
/-- pantograph/pantographref5.Name -/
noncomputable def ref5_Name_R0 (s1 : Str) : Int → T (Int ⊕ (Unit ⊕ Bool))
  | i =>
    .ite (decide (i < (Nat.cast (List.length s1) : Int)))
      (T.bind (.obl (idxOk i (List.length s1)) <|
            T.bind (ref5_letter (byteAt s1 i)) fun r1 =>
            .ite (!r1)
              (.obl (idxOk i (List.length s1)) <|
                T.bind (ref5_digit (byteAt s1 i)) fun r2 =>
                .ite (!r2)
                  (.obl (idxOk i (List.length s1)) <|
                    .ret ((byteAt s1 i) != (95 : Int)))
                  (.ret false))
              (.ret false) : T (Bool)) fun x1 =>
        .ite x1
          (.ret (.inr (.inr false)))
          (.ret (.inl (w64 (i + (1 : Int))))))
      (.ret (.inr (.inl ())))
noncomputable def ref5_Name_L0 (s1 : Str) (s : Int) : T (Unit ⊕ Bool) := T.loop (ref5_Name_R0 s1) s
noncomputable def ref5_Name (s : Str) : T Bool :=
  T.bind (.ite (decide ((Nat.cast (List.length s) : Int) < (1 : Int)))
        (.ret true)
        (.ite (decide ((24 : Int) < (Nat.cast (List.length s) : Int)))
            (.ret true)
            (.obl (idxOk (0 : Int) (List.length s)) <|
              T.bind (ref5_letter (byteAt s (0 : Int))) fun r =>
              .ret (!r))) : T (Bool)) fun x =>
  .ite x
    (.ret false)
    (T.bind (ref5_Name_L0 s (1 : Int)) <|
        Sum.elim (fun _ =>
          .ret true)
        (fun x2 =>
          .ret x2))
/-- pantograph/nat.Is -/
noncomputable def nat_Is (a : (List Int)) : T Bool :=
  .obl ((((Nat.cast (List.length a) : Int) == (0 : Int)) = false) → (idxOk (w64 ((Nat.cast (List.length a) : Int) - (1 : Int))) (List.length a))) <|
  .ret (((Nat.cast (List.length a) : Int) == (0 : Int)) || ((nth a (w64 ((Nat.cast (List.length a) : Int) - (1 : Int))) (dflt (.int .u32))) != (0 : Int)))
/-- pantograph/nat.trim -/
noncomputable def nat_trim_R0  : (List Int) → T ((List Int) ⊕ ((List Int)))
  | a1 =>
    T.bind (nat_Is a1) fun r =>
    .ite (!r)
      (.obl (slOk (0 : Int) (w64 ((Nat.cast (List.length a1) : Int) - (1 : Int))) (List.length a1)) <|
        .ret (.inl (cutL (e := (.int .u32)) (0 : Int) (w64 ((Nat.cast (List.length a1) : Int) - (1 : Int))) a1)))
      (.ret (.inr a1))
noncomputable def nat_trim_L0  (s : (List Int)) : T ((List Int)) := T.loop (nat_trim_R0 ) s
noncomputable def nat_trim (a : (List Int)) : T (List Int) :=
  T.bind (nat_trim_L0  a) fun a2 =>
  .ret a2
/-- slices.Clone[[]uint32,uint32] -/
noncomputable def slices_Clone_sl_uint32 (s : (List Int)) : T (List Int) :=
  .obl (s = [] → ∀ r, T.leads (.obl (appOk (0 : Nat) (0 : Nat) (0 : Nat) (0 : Nat) (0 : Nat) (List.length s) (4 : Nat)) <|
      .obl (((0 : Nat) + (List.length s)) = ((0 : Nat) + (List.length s))) <|
      .ret (List.drop (0 : Nat) (List.take ((0 : Nat) + ((0 : Nat) + (List.length s))) s)) : T _) r → T.leads (.ret ([] : List Int) : T _) r) <|
  .obl (appOk (0 : Nat) (0 : Nat) (0 : Nat) (0 : Nat) (0 : Nat) (List.length s) (4 : Nat)) <|
  .obl (((0 : Nat) + (List.length s)) = ((0 : Nat) + (List.length s))) <|
  .ret (List.drop (0 : Nat) (List.take ((0 : Nat) + ((0 : Nat) + (List.length s))) s))
/-- pantograph/nat.Trim -/
noncomputable def nat_Trim (a : (List Int)) : T (List Int) :=
  T.bind (nat_trim a) fun r =>
  T.bind (slices_Clone_sl_uint32 r) fun r1 =>
  .ret r1
/-- pantograph/nat.Of -/
noncomputable def nat_Of (n : Int) : T (List Int) :=
  .obl ((0 : Int) ≤ (32 : Int)) <|
  T.bind (nat_trim ([(wu32 n), (wu32 (shrI .u64 n (32 : Int)))] : List Int)) fun r =>
  .ret r
/-- pantograph/nat.Cmp -/
noncomputable def nat_Cmp_R0 (a2 : (List Int)) (b2 : (List Int)) : Int → T (Int ⊕ (Unit ⊕ Int))
  | i =>
    .ite (decide ((0 : Int) ≤ i))
      (.obl (idxOk i (List.length a2)) <|
        .obl (idxOk i (List.length b2)) <|
        .ite ((nth a2 i (dflt (.int .u32))) != (nth b2 i (dflt (.int .u32))))
          (.obl (idxOk i (List.length a2)) <|
            .obl (idxOk i (List.length b2)) <|
            .ite (decide ((nth a2 i (dflt (.int .u32))) < (nth b2 i (dflt (.int .u32)))))
              (.ret (.inr (.inr (-1 : Int))))
              (.ret (.inr (.inr (1 : Int)))))
          (.ret (.inl (w64 (i - (1 : Int))))))
      (.ret (.inr (.inl ())))
noncomputable def nat_Cmp_L0 (a2 : (List Int)) (b2 : (List Int)) (s : Int) : T (Unit ⊕ Int) := T.loop (nat_Cmp_R0 a2 b2) s
noncomputable def nat_Cmp (a : (List Int)) (b : (List Int)) : T Int :=
  T.bind (nat_trim a) fun a1 =>
  T.bind (nat_trim b) fun b1 =>
  .ite ((Nat.cast (List.length a1) : Int) != (Nat.cast (List.length b1) : Int))
    (.ite (decide ((Nat.cast (List.length a1) : Int) < (Nat.cast (List.length b1) : Int)))
        (.ret (-1 : Int))
        (.ret (1 : Int)))
    (T.bind (nat_Cmp_L0 a1 b1 (w64 ((Nat.cast (List.length a1) : Int) - (1 : Int)))) <|
        Sum.elim (fun _ =>
          .ret (0 : Int))
        (fun x =>
          .ret x))
/-- math/bits.Div32 -/
noncomputable def math_bits_Div32 (hi : Int) (lo : Int) (y : Int) : T (Int × Int) :=
  .ite ((y != (0 : Int)) && (decide (y ≤ hi)))
    (.fail)
    (.obl ((0 : Int) ≤ (32 : Int)) <|
      .obl ((wu64 y) ≠ (0 : Int)) <|
      .obl ((wu64 y) ≠ (0 : Int)) <|
      .ret ((wu32 (wu64 (Int.tdiv (orI .u64 (shlI .u64 (wu64 hi) (32 : Int)) (wu64 lo)) (wu64 y)))), (wu32 (Int.tmod (orI .u64 (shlI .u64 (wu64 hi) (32 : Int)) (wu64 lo)) (wu64 y)))))
/-- pantograph/nat.small -/
noncomputable def nat_small_R0 (a1 : (List Int)) (b1 : Int) : (Int × Int × (List Int)) → T ((Int × Int × (List Int)) ⊕ ((Int × (List Int))))
  | (rest, i, xs) =>
    .ite (decide ((0 : Int) ≤ i))
      (.obl (idxOk i (List.length a1)) <|
        T.bind (math_bits_Div32 rest (nth a1 i (dflt (.int .u32))) b1) fun (r, rest1) =>
        .obl (idxOk i (List.length xs)) <|
        .obl (eOk (List.length xs) (List.length xs) ((0 : Nat) + (Int.toNat i)) (List.length xs)) <|
        .obl (curOk (List.length xs) (0 : Nat) (List.length xs) (List.length (List.set xs ((0 : Nat) + (Int.toNat i)) r))) <|
        .obl ((List.length xs) = (List.length (List.set xs ((0 : Nat) + (Int.toNat i)) r))) <|
        .ret (.inl (rest1, ((w64 (i - (1 : Int))), (List.set xs ((0 : Nat) + (Int.toNat i)) r)))))
      (.obl (curOk (List.length xs) (0 : Nat) (List.length xs) (List.length xs)) <|
        .obl ((List.length xs) = (List.length xs)) <|
        .ret (.inr (rest, xs)))
noncomputable def nat_small_L0 (a1 : (List Int)) (b1 : Int) (s : (Int × Int × (List Int))) : T ((Int × (List Int))) := T.loop (nat_small_R0 a1 b1) s
noncomputable def nat_small (a : (List Int)) (b : Int) : T ((List Int) × Int) :=
  .obl (mkOk (Nat.cast (List.length a) : Int) (Nat.cast (List.length a) : Int) (4 : Nat)) <|
  .obl (curOk (Int.toNat (Nat.cast (List.length a) : Int)) (0 : Nat) (Int.toNat (Nat.cast (List.length a) : Int)) (List.length (List.replicate (Int.toNat (Nat.cast (List.length a) : Int)) (0 : Int)))) <|
  .obl ((Int.toNat (Nat.cast (List.length a) : Int)) = (List.length (List.replicate (Int.toNat (Nat.cast (List.length a) : Int)) (0 : Int)))) <|
  T.bind (nat_small_L0 a b ((0 : Int), ((w64 ((Nat.cast (List.length a) : Int) - (1 : Int))), (List.replicate (Int.toNat (Nat.cast (List.length a) : Int)) (0 : Int))))) fun (rest2, xs1) =>
  .obl ((List.length xs1) = (List.length xs1)) <|
  T.bind (nat_trim (List.drop (0 : Nat) (List.take ((0 : Nat) + (List.length xs1)) xs1))) fun r1 =>
  .ret (r1, rest2)
/-- math/bits.Len32 -/
noncomputable def math_bits_Len32 (x : Int) : T Int :=
  .obl (((decide ((65536 : Int) ≤ x)) = true) → ((0 : Int) ≤ (16 : Int))) <|
  .obl (((decide ((256 : Int) ≤ (bif (decide ((65536 : Int) ≤ x)) then (shrI .u32 x (16 : Int)) else x))) = true) → ((0 : Int) ≤ (8 : Int))) <|
  .obl (idxOk (wu8 (bif (decide ((256 : Int) ≤ (bif (decide ((65536 : Int) ≤ x)) then (shrI .u32 x (16 : Int)) else x))) then (shrI .u32 (bif (decide ((65536 : Int) ≤ x)) then (shrI .u32 x (16 : Int)) else x) (8 : Int)) else (bif (decide ((65536 : Int) ≤ x)) then (shrI .u32 x (16 : Int)) else x))) (List.length ([0, 1, 2, 2, 3, 3, 3, 3, 4, 4, 4, 4, 4, 4, 4, 4, 5, 5, 5, 5, 5, 5, 5, 5, 5, 5, 5, 5, 5, 5, 5, 5, 6, 6, 6, 6, 6, 6, 6, 6, 6, 6, 6, 6, 6, 6, 6, 6, 6, 6, 6, 6, 6, 6, 6, 6, 6, 6, 6, 6, 6, 6, 6, 6, 7, 7, 7, 7, 7, 7, 7, 7, 7, 7, 7, 7, 7, 7, 7, 7, 7, 7, 7, 7, 7, 7, 7, 7, 7, 7, 7, 7, 7, 7, 7, 7, 7, 7, 7, 7, 7, 7, 7, 7, 7, 7, 7, 7, 7, 7, 7, 7, 7, 7, 7, 7, 7, 7, 7, 7, 7, 7, 7, 7, 7, 7, 7, 7, 8, 8, 8, 8, 8, 8, 8, 8, 8, 8, 8, 8, 8, 8, 8, 8, 8, 8, 8, 8, 8, 8, 8, 8, 8, 8, 8, 8, 8, 8, 8, 8, 8, 8, 8, 8, 8, 8, 8, 8, 8, 8, 8, 8, 8, 8, 8, 8, 8, 8, 8, 8, 8, 8, 8, 8, 8, 8, 8, 8, 8, 8, 8, 8, 8, 8, 8, 8, 8, 8, 8, 8, 8, 8, 8, 8, 8, 8, 8, 8, 8, 8, 8, 8, 8, 8, 8, 8, 8, 8, 8, 8, 8, 8, 8, 8, 8, 8, 8, 8, 8, 8, 8, 8, 8, 8, 8, 8, 8, 8, 8, 8, 8, 8, 8, 8, 8, 8, 8, 8, 8, 8, 8, 8, 8, 8, 8, 8] : Str))) <|
  .ret (w64 ((bif (decide ((256 : Int) ≤ (bif (decide ((65536 : Int) ≤ x)) then (shrI .u32 x (16 : Int)) else x))) then (w64 ((bif (decide ((65536 : Int) ≤ x)) then (16 : Int) else (0 : Int)) + (8 : Int))) else (bif (decide ((65536 : Int) ≤ x)) then (16 : Int) else (0 : Int))) + (w64 (byteAt ([0, 1, 2, 2, 3, 3, 3, 3, 4, 4, 4, 4, 4, 4, 4, 4, 5, 5, 5, 5, 5, 5, 5, 5, 5, 5, 5, 5, 5, 5, 5, 5, 6, 6, 6, 6, 6, 6, 6, 6, 6, 6, 6, 6, 6, 6, 6, 6, 6, 6, 6, 6, 6, 6, 6, 6, 6, 6, 6, 6, 6, 6, 6, 6, 7, 7, 7, 7, 7, 7, 7, 7, 7, 7, 7, 7, 7, 7, 7, 7, 7, 7, 7, 7, 7, 7, 7, 7, 7, 7, 7, 7, 7, 7, 7, 7, 7, 7, 7, 7, 7, 7, 7, 7, 7, 7, 7, 7, 7, 7, 7, 7, 7, 7, 7, 7, 7, 7, 7, 7, 7, 7, 7, 7, 7, 7, 7, 7, 8, 8, 8, 8, 8, 8, 8, 8, 8, 8, 8, 8, 8, 8, 8, 8, 8, 8, 8, 8, 8, 8, 8, 8, 8, 8, 8, 8, 8, 8, 8, 8, 8, 8, 8, 8, 8, 8, 8, 8, 8, 8, 8, 8, 8, 8, 8, 8, 8, 8, 8, 8, 8, 8, 8, 8, 8, 8, 8, 8, 8, 8, 8, 8, 8, 8, 8, 8, 8, 8, 8, 8, 8, 8, 8, 8, 8, 8, 8, 8, 8, 8, 8, 8, 8, 8, 8, 8, 8, 8, 8, 8, 8, 8, 8, 8, 8, 8, 8, 8, 8, 8, 8, 8, 8, 8, 8, 8, 8, 8, 8, 8, 8, 8, 8, 8, 8, 8, 8, 8, 8, 8, 8, 8, 8, 8, 8, 8] : Str) (wu8 (bif (decide ((256 : Int) ≤ (bif (decide ((65536 : Int) ≤ x)) then (shrI .u32 x (16 : Int)) else x))) then (shrI .u32 (bif (decide ((65536 : Int) ≤ x)) then (shrI .u32 x (16 : Int)) else x) (8 : Int)) else (bif (decide ((65536 : Int) ≤ x)) then (shrI .u32 x (16 : Int)) else x)))))))
/-- math/bits.LeadingZeros32 -/
noncomputable def math_bits_LeadingZeros32 (x : Int) : T Int :=
  T.bind (math_bits_Len32 x) fun r =>
  .ret (w64 ((32 : Int) - r))
/-- pantograph/nat.left -/
noncomputable def nat_left_S_R0 (by_1 : Int) (n1 : Int) (x : (List Int)) (x1 : Int) : (Int × (List Int)) → T ((Int × (List Int)) ⊕ ((List Int)))
  | (x2, xs) =>
    .ite (decide (x2 < x1))
      (.obl (idxOk x2 (List.length x)) <|
        .obl ((0 : Int) ≤ by_1) <|
        .obl (idxOk x2 (List.length xs)) <|
        .obl (eOk (List.length xs) (List.length xs) ((0 : Nat) + (Int.toNat x2)) (List.length xs)) <|
        .obl (idxOk x2 (List.length xs)) <|
        .obl (eOk (List.length xs) (List.length xs) ((0 : Nat) + (Int.toNat x2)) (List.length xs)) <|
        .ite (decide ((w64 (x2 + (1 : Int))) < n1))
          (.obl ((0 : Int) ≤ (32 : Int)) <|
            .obl (idxOk (w64 (x2 + (1 : Int))) (List.length xs)) <|
            .obl (eOk (List.length xs) (List.length xs) ((0 : Nat) + (Int.toNat (w64 (x2 + (1 : Int))))) (List.length (List.set xs ((0 : Nat) + (Int.toNat x2)) (orI .u32 (nthN xs ((0 : Nat) + (Int.toNat x2)) (dflt (.int .u32))) (wu32 (shlI .u64 (wu64 (nth x x2 (dflt (.int .u32)))) by_1)))))) <|
            .obl (curOk (List.length xs) (0 : Nat) (List.length xs) (List.length (List.set (List.set xs ((0 : Nat) + (Int.toNat x2)) (orI .u32 (nthN xs ((0 : Nat) + (Int.toNat x2)) (dflt (.int .u32))) (wu32 (shlI .u64 (wu64 (nth x x2 (dflt (.int .u32)))) by_1)))) ((0 : Nat) + (Int.toNat (w64 (x2 + (1 : Int))))) (wu32 (shrI .u64 (shlI .u64 (wu64 (nth x x2 (dflt (.int .u32)))) by_1) (32 : Int)))))) <|
            .obl ((List.length xs) = (List.length (List.set (List.set xs ((0 : Nat) + (Int.toNat x2)) (orI .u32 (nthN xs ((0 : Nat) + (Int.toNat x2)) (dflt (.int .u32))) (wu32 (shlI .u64 (wu64 (nth x x2 (dflt (.int .u32)))) by_1)))) ((0 : Nat) + (Int.toNat (w64 (x2 + (1 : Int))))) (wu32 (shrI .u64 (shlI .u64 (wu64 (nth x x2 (dflt (.int .u32)))) by_1) (32 : Int)))))) <|
            .ret (.inl ((w64 (x2 + (1 : Int))), (List.set (List.set xs ((0 : Nat) + (Int.toNat x2)) (orI .u32 (nthN xs ((0 : Nat) + (Int.toNat x2)) (dflt (.int .u32))) (wu32 (shlI .u64 (wu64 (nth x x2 (dflt (.int .u32)))) by_1)))) ((0 : Nat) + (Int.toNat (w64 (x2 + (1 : Int))))) (wu32 (shrI .u64 (shlI .u64 (wu64 (nth x x2 (dflt (.int .u32)))) by_1) (32 : Int)))))))
          (.obl (curOk (List.length xs) (0 : Nat) (List.length xs) (List.length (List.set xs ((0 : Nat) + (Int.toNat x2)) (orI .u32 (nthN xs ((0 : Nat) + (Int.toNat x2)) (dflt (.int .u32))) (wu32 (shlI .u64 (wu64 (nth x x2 (dflt (.int .u32)))) by_1)))))) <|
            .obl ((List.length xs) = (List.length (List.set xs ((0 : Nat) + (Int.toNat x2)) (orI .u32 (nthN xs ((0 : Nat) + (Int.toNat x2)) (dflt (.int .u32))) (wu32 (shlI .u64 (wu64 (nth x x2 (dflt (.int .u32)))) by_1)))))) <|
            .ret (.inl ((w64 (x2 + (1 : Int))), (List.set xs ((0 : Nat) + (Int.toNat x2)) (orI .u32 (nthN xs ((0 : Nat) + (Int.toNat x2)) (dflt (.int .u32))) (wu32 (shlI .u64 (wu64 (nth x x2 (dflt (.int .u32)))) by_1))))))))
      (.obl (curOk (List.length xs) (0 : Nat) (List.length xs) (List.length xs)) <|
        .obl ((List.length xs) = (List.length xs)) <|
        .ret (.inr xs))
noncomputable def nat_left_S_L0 (by_1 : Int) (n1 : Int) (x : (List Int)) (x1 : Int) (s : (Int × (List Int))) : T ((List Int)) := T.loop (nat_left_S_R0 by_1 n1 x x1) s
noncomputable def nat_left_S (a : (List Int)) (by_ : Int) (n : Int) : T (List Int) :=
  .obl (mkOk n n (4 : Nat)) <|
  .obl (curOk (Int.toNat n) (0 : Nat) (Int.toNat n) (List.length (List.replicate (Int.toNat n) (0 : Int)))) <|
  .obl ((Int.toNat n) = (List.length (List.replicate (Int.toNat n) (0 : Int)))) <|
  T.bind (nat_left_S_L0 by_ n a (Nat.cast (List.length a) : Int) ((0 : Int), (List.replicate (Int.toNat n) (0 : Int)))) fun xs1 =>
  .obl (curOk (List.length xs1) (0 : Nat) (List.length xs1) (List.length xs1)) <|
  .obl ((List.length xs1) = (List.length xs1)) <|
  .ret xs1
/-- pantograph/nat.guess -/
noncomputable def nat_guess_R0 (low1 : Int) (b11 : Int) (b21 : Int) : (Int × Int) → T ((Int × Int) ⊕ (Int))
  | (q, r) =>
    .obl (((0 : Int) ≤ (32 : Int)) ∧ ((((shrI .u64 q (32 : Int)) != (0 : Int)) = false) → ((0 : Int) ≤ (32 : Int)))) <|
    .ite (((shrI .u64 q (32 : Int)) != (0 : Int)) || (decide ((orI .u64 (shlI .u64 r (32 : Int)) (wu64 low1)) < (wu64 (q * (wu64 b21))))))
      (.obl ((0 : Int) ≤ (32 : Int)) <|
        .ite ((shrI .u64 (wu64 (r + (wu64 b11))) (32 : Int)) != (0 : Int))
          (.ret (.inr (wu64 (q - (1 : Int)))))
          (.ret (.inl ((wu64 (q - (1 : Int))), (wu64 (r + (wu64 b11)))))))
      (.ret (.inr q))
noncomputable def nat_guess_L0 (low1 : Int) (b11 : Int) (b21 : Int) (s : (Int × Int)) : T (Int) := T.loop (nat_guess_R0 low1 b11 b21) s
noncomputable def nat_guess (high : Int) (mid : Int) (low : Int) (b1 : Int) (b2 : Int) : T Int :=
  .obl ((0 : Int) ≤ (32 : Int)) <|
  .obl ((wu64 b1) ≠ (0 : Int)) <|
  .obl ((wu64 b1) ≠ (0 : Int)) <|
  T.bind (nat_guess_L0 low b1 b2 ((wu64 (Int.tdiv (orI .u64 (shlI .u64 (wu64 high) (32 : Int)) (wu64 mid)) (wu64 b1))), (Int.tmod (orI .u64 (shlI .u64 (wu64 high) (32 : Int)) (wu64 mid)) (wu64 b1)))) fun q1 =>
  .ret q1
/-- math/bits.Sub32 -/
noncomputable def math_bits_Sub32 (x : Int) (y : Int) (borrow : Int) : T (Int × Int) :=
  .obl ((0 : Int) ≤ (31 : Int)) <|
  .ret ((wu32 ((wu32 (x - y)) - borrow)), (shrI .u32 (orI .u32 (andI .u32 (xorI .u32 (4294967295 : Int) x) y) (andI .u32 (xorI .u32 (4294967295 : Int) (xorI .u32 x y)) (wu32 ((wu32 (x - y)) - borrow)))) (31 : Int)))
/-- math/bits.Add32 -/
noncomputable def math_bits_Add32 (x : Int) (y : Int) (carry : Int) : T (Int × Int) :=
  .obl ((0 : Int) ≤ (32 : Int)) <|
  .ret ((wu32 (wu64 ((wu64 ((wu64 x) + (wu64 y))) + (wu64 carry)))), (wu32 (shrI .u64 (wu64 ((wu64 ((wu64 x) + (wu64 y))) + (wu64 carry))) (32 : Int))))
/-- pantograph/nat.takes -/
noncomputable def nat_takes_S_R0 (b1 : (List Int)) (q1 : Int) (x : (List Int)) (x1 : Int) : ((Nat × Nat) × Int × Int × Int × (List Int)) → T (((Nat × Nat) × Int × Int × Int × (List Int)) ⊕ (((Nat × Nat) × Int × Int × (List Int))))
  | (u1, carry, borrow, x2, xs) =>
    .ite (decide (x2 < x1))
      (.obl (idxOk x2 (List.length x)) <|
        .obl (idxOk x2 u1.2) <|
        .obl (eOk (List.length xs) (List.length xs) (u1.1 + (Int.toNat x2)) (List.length xs)) <|
        T.bind (math_bits_Sub32 (nthN xs (u1.1 + (Int.toNat x2)) (dflt (.int .u32))) (wu32 (wu64 (carry + (wu64 (q1 * (wu64 (nth x x2 (dflt (.int .u32))))))))) borrow) fun (r, borrow1) =>
        .obl (idxOk x2 u1.2) <|
        .obl (eOk (List.length xs) (List.length xs) (u1.1 + (Int.toNat x2)) (List.length xs)) <|
        .obl ((0 : Int) ≤ (32 : Int)) <|
        .obl ((List.length xs) = (List.length xs)) <|
        .obl ((List.length xs) = (List.length (List.set xs (u1.1 + (Int.toNat x2)) r))) <|
        .ret (.inl (u1, ((shrI .u64 (wu64 (carry + (wu64 (q1 * (wu64 (nth x x2 (dflt (.int .u32)))))))) (32 : Int)), (borrow1, ((w64 (x2 + (1 : Int))), (List.set xs (u1.1 + (Int.toNat x2)) r)))))))
      (.obl ((List.length xs) = (List.length xs)) <|
        .obl ((List.length xs) = (List.length xs)) <|
        .ret (.inr (u1, (carry, (borrow, xs)))))
noncomputable def nat_takes_S_L0 (b1 : (List Int)) (q1 : Int) (x : (List Int)) (x1 : Int) (s : ((Nat × Nat) × Int × Int × Int × (List Int))) : T (((Nat × Nat) × Int × Int × (List Int))) := T.loop (nat_takes_S_R0 b1 q1 x x1) s
noncomputable def nat_takes_S_R1 (b2 : (List Int)) (x3 : (List Int)) (x4 : Int) : ((Nat × Nat) × Int × Int × (List Int)) → T (((Nat × Nat) × Int × Int × (List Int)) ⊕ (((Nat × Nat) × Int × (List Int))))
  | (u3, more, x5, xs2) =>
    .ite (decide (x5 < x4))
      (.obl (idxOk x5 (List.length x3)) <|
        .obl (idxOk x5 u3.2) <|
        .obl (eOk (List.length xs2) (List.length xs2) (u3.1 + (Int.toNat x5)) (List.length xs2)) <|
        T.bind (math_bits_Add32 (nthN xs2 (u3.1 + (Int.toNat x5)) (dflt (.int .u32))) (nth x3 x5 (dflt (.int .u32))) more) fun (r2, more1) =>
        .obl (idxOk x5 u3.2) <|
        .obl (eOk (List.length xs2) (List.length xs2) (u3.1 + (Int.toNat x5)) (List.length xs2)) <|
        .obl ((List.length xs2) = (List.length xs2)) <|
        .obl ((List.length xs2) = (List.length (List.set xs2 (u3.1 + (Int.toNat x5)) r2))) <|
        .ret (.inl (u3, (more1, ((w64 (x5 + (1 : Int))), (List.set xs2 (u3.1 + (Int.toNat x5)) r2))))))
      (.obl ((List.length xs2) = (List.length xs2)) <|
        .obl ((List.length xs2) = (List.length xs2)) <|
        .ret (.inr (u3, (more, xs2))))
noncomputable def nat_takes_S_L1 (b2 : (List Int)) (x3 : (List Int)) (x4 : Int) (s : ((Nat × Nat) × Int × Int × (List Int))) : T (((Nat × Nat) × Int × (List Int))) := T.loop (nat_takes_S_R1 b2 x3 x4) s
noncomputable def nat_takes_S (uw : (Nat × Nat)) (b : (List Int)) (q : Int) (u : (List Int)) : T (Bool × (List Int)) :=
  .obl ((List.length u) = (List.length u)) <|
  .obl ((List.length u) = (List.length u)) <|
  T.bind (nat_takes_S_L0 b q b (Nat.cast (List.length b) : Int) (uw, ((0 : Int), ((0 : Int), ((0 : Int), u))))) fun (u2, carry1, borrow2, xs1) =>
  .obl (idxOk (Nat.cast (List.length b) : Int) u2.2) <|
  .obl (eOk (List.length xs1) (List.length xs1) (u2.1 + (Int.toNat (Nat.cast (List.length b) : Int))) (List.length xs1)) <|
  T.bind (math_bits_Sub32 (nthN xs1 (u2.1 + (Int.toNat (Nat.cast (List.length b) : Int))) (dflt (.int .u32))) (wu32 carry1) borrow2) fun (r1, borrow3) =>
  .obl (idxOk (Nat.cast (List.length b) : Int) u2.2) <|
  .obl (eOk (List.length xs1) (List.length xs1) (u2.1 + (Int.toNat (Nat.cast (List.length b) : Int))) (List.length xs1)) <|
  .ite (borrow3 == (0 : Int))
    (.obl ((List.length xs1) = (List.length (List.set xs1 (u2.1 + (Int.toNat (Nat.cast (List.length b) : Int))) r1))) <|
      .ret (false, (List.set xs1 (u2.1 + (Int.toNat (Nat.cast (List.length b) : Int))) r1)))
    (.obl ((List.length xs1) = (List.length xs1)) <|
      .obl ((List.length xs1) = (List.length (List.set xs1 (u2.1 + (Int.toNat (Nat.cast (List.length b) : Int))) r1))) <|
      T.bind (nat_takes_S_L1 b b (Nat.cast (List.length b) : Int) (u2, ((0 : Int), ((0 : Int), (List.set xs1 (u2.1 + (Int.toNat (Nat.cast (List.length b) : Int))) r1))))) fun (u4, more2, xs3) =>
      .obl (idxOk (Nat.cast (List.length b) : Int) u4.2) <|
      .obl (eOk (List.length xs3) (List.length xs3) (u4.1 + (Int.toNat (Nat.cast (List.length b) : Int))) (List.length xs3)) <|
      .obl (idxOk (Nat.cast (List.length b) : Int) u4.2) <|
      .obl (eOk (List.length xs3) (List.length xs3) (u4.1 + (Int.toNat (Nat.cast (List.length b) : Int))) (List.length xs3)) <|
      .obl ((List.length xs3) = (List.length (List.set xs3 (u4.1 + (Int.toNat (Nat.cast (List.length b) : Int))) (wu32 ((nthN xs3 (u4.1 + (Int.toNat (Nat.cast (List.length b) : Int))) (dflt (.int .u32))) + more2))))) <|
      .ret (true, (List.set xs3 (u4.1 + (Int.toNat (Nat.cast (List.length b) : Int))) (wu32 ((nthN xs3 (u4.1 + (Int.toNat (Nat.cast (List.length b) : Int))) (dflt (.int .u32))) + more2)))))
/-- pantograph/nat.left -/
noncomputable def nat_left_R0 (by_1 : Int) (n1 : Int) (x : (List Int)) (x1 : Int) : (Int × (List Int)) → T ((Int × (List Int)) ⊕ ((List Int)))
  | (x2, xs) =>
    .ite (decide (x2 < x1))
      (.obl (idxOk x2 (List.length x)) <|
        .obl ((0 : Int) ≤ by_1) <|
        .obl (idxOk x2 (List.length xs)) <|
        .obl (eOk (List.length xs) (List.length xs) ((0 : Nat) + (Int.toNat x2)) (List.length xs)) <|
        .obl (idxOk x2 (List.length xs)) <|
        .obl (eOk (List.length xs) (List.length xs) ((0 : Nat) + (Int.toNat x2)) (List.length xs)) <|
        .ite (decide ((w64 (x2 + (1 : Int))) < n1))
          (.obl ((0 : Int) ≤ (32 : Int)) <|
            .obl (idxOk (w64 (x2 + (1 : Int))) (List.length xs)) <|
            .obl (eOk (List.length xs) (List.length xs) ((0 : Nat) + (Int.toNat (w64 (x2 + (1 : Int))))) (List.length (List.set xs ((0 : Nat) + (Int.toNat x2)) (orI .u32 (nthN xs ((0 : Nat) + (Int.toNat x2)) (dflt (.int .u32))) (wu32 (shlI .u64 (wu64 (nth x x2 (dflt (.int .u32)))) by_1)))))) <|
            .obl (curOk (List.length xs) (0 : Nat) (List.length xs) (List.length (List.set (List.set xs ((0 : Nat) + (Int.toNat x2)) (orI .u32 (nthN xs ((0 : Nat) + (Int.toNat x2)) (dflt (.int .u32))) (wu32 (shlI .u64 (wu64 (nth x x2 (dflt (.int .u32)))) by_1)))) ((0 : Nat) + (Int.toNat (w64 (x2 + (1 : Int))))) (wu32 (shrI .u64 (shlI .u64 (wu64 (nth x x2 (dflt (.int .u32)))) by_1) (32 : Int)))))) <|
            .obl ((List.length xs) = (List.length (List.set (List.set xs ((0 : Nat) + (Int.toNat x2)) (orI .u32 (nthN xs ((0 : Nat) + (Int.toNat x2)) (dflt (.int .u32))) (wu32 (shlI .u64 (wu64 (nth x x2 (dflt (.int .u32)))) by_1)))) ((0 : Nat) + (Int.toNat (w64 (x2 + (1 : Int))))) (wu32 (shrI .u64 (shlI .u64 (wu64 (nth x x2 (dflt (.int .u32)))) by_1) (32 : Int)))))) <|
            .ret (.inl ((w64 (x2 + (1 : Int))), (List.set (List.set xs ((0 : Nat) + (Int.toNat x2)) (orI .u32 (nthN xs ((0 : Nat) + (Int.toNat x2)) (dflt (.int .u32))) (wu32 (shlI .u64 (wu64 (nth x x2 (dflt (.int .u32)))) by_1)))) ((0 : Nat) + (Int.toNat (w64 (x2 + (1 : Int))))) (wu32 (shrI .u64 (shlI .u64 (wu64 (nth x x2 (dflt (.int .u32)))) by_1) (32 : Int)))))))
          (.obl (curOk (List.length xs) (0 : Nat) (List.length xs) (List.length (List.set xs ((0 : Nat) + (Int.toNat x2)) (orI .u32 (nthN xs ((0 : Nat) + (Int.toNat x2)) (dflt (.int .u32))) (wu32 (shlI .u64 (wu64 (nth x x2 (dflt (.int .u32)))) by_1)))))) <|
            .obl ((List.length xs) = (List.length (List.set xs ((0 : Nat) + (Int.toNat x2)) (orI .u32 (nthN xs ((0 : Nat) + (Int.toNat x2)) (dflt (.int .u32))) (wu32 (shlI .u64 (wu64 (nth x x2 (dflt (.int .u32)))) by_1)))))) <|
            .ret (.inl ((w64 (x2 + (1 : Int))), (List.set xs ((0 : Nat) + (Int.toNat x2)) (orI .u32 (nthN xs ((0 : Nat) + (Int.toNat x2)) (dflt (.int .u32))) (wu32 (shlI .u64 (wu64 (nth x x2 (dflt (.int .u32)))) by_1))))))))
      (.obl (curOk (List.length xs) (0 : Nat) (List.length xs) (List.length xs)) <|
        .obl ((List.length xs) = (List.length xs)) <|
        .ret (.inr xs))
noncomputable def nat_left_L0 (by_1 : Int) (n1 : Int) (x : (List Int)) (x1 : Int) (s : (Int × (List Int))) : T ((List Int)) := T.loop (nat_left_R0 by_1 n1 x x1) s
noncomputable def nat_left (a : (List Int)) (by_ : Int) (n : Int) : T (List Int) :=
  .obl (mkOk n n (4 : Nat)) <|
  .obl (curOk (Int.toNat n) (0 : Nat) (Int.toNat n) (List.length (List.replicate (Int.toNat n) (0 : Int)))) <|
  .obl ((Int.toNat n) = (List.length (List.replicate (Int.toNat n) (0 : Int)))) <|
  T.bind (nat_left_L0 by_ n a (Nat.cast (List.length a) : Int) ((0 : Int), (List.replicate (Int.toNat n) (0 : Int)))) fun xs1 =>
  .obl ((List.length xs1) = (List.length xs1)) <|
  .ret (List.drop (0 : Nat) (List.take ((0 : Nat) + (List.length xs1)) xs1))
/-- pantograph/nat.Shift -/
noncomputable def nat_Shift_R0 (by_ : Int) (x : (List Int)) (x1 : Int) : (Int × (List Int)) → T ((Int × (List Int)) ⊕ ((List Int)))
  | (x2, xs) =>
    .ite (decide (x2 < x1))
      (.obl (idxOk x2 (List.length x)) <|
        .obl ((0 : Int) ≤ (32 : Int)) <|
        .obl ((0 : Int) ≤ by_) <|
        .obl (idxOk x2 (List.length xs)) <|
        .obl (eOk (List.length xs) (List.length xs) ((0 : Nat) + (Int.toNat x2)) (List.length xs)) <|
        .obl ((0 : Int) ≤ (32 : Int)) <|
        .obl (idxOk x2 (List.length xs)) <|
        .obl (eOk (List.length xs) (List.length xs) ((0 : Nat) + (Int.toNat x2)) (List.length xs)) <|
        .ite (decide ((0 : Int) < x2))
          (.obl (idxOk (w64 (x2 - (1 : Int))) (List.length xs)) <|
            .obl (eOk (List.length xs) (List.length xs) ((0 : Nat) + (Int.toNat (w64 (x2 - (1 : Int))))) (List.length (List.set xs ((0 : Nat) + (Int.toNat x2)) (orI .u32 (nthN xs ((0 : Nat) + (Int.toNat x2)) (dflt (.int .u32))) (wu32 (shrI .u64 (shrI .u64 (shlI .u64 (wu64 (nth x x2 (dflt (.int .u32)))) (32 : Int)) by_) (32 : Int))))))) <|
            .obl (idxOk (w64 (x2 - (1 : Int))) (List.length xs)) <|
            .obl (eOk (List.length xs) (List.length xs) ((0 : Nat) + (Int.toNat (w64 (x2 - (1 : Int))))) (List.length (List.set xs ((0 : Nat) + (Int.toNat x2)) (orI .u32 (nthN xs ((0 : Nat) + (Int.toNat x2)) (dflt (.int .u32))) (wu32 (shrI .u64 (shrI .u64 (shlI .u64 (wu64 (nth x x2 (dflt (.int .u32)))) (32 : Int)) by_) (32 : Int))))))) <|
            .obl (curOk (List.length xs) (0 : Nat) (List.length xs) (List.length (List.set (List.set xs ((0 : Nat) + (Int.toNat x2)) (orI .u32 (nthN xs ((0 : Nat) + (Int.toNat x2)) (dflt (.int .u32))) (wu32 (shrI .u64 (shrI .u64 (shlI .u64 (wu64 (nth x x2 (dflt (.int .u32)))) (32 : Int)) by_) (32 : Int))))) ((0 : Nat) + (Int.toNat (w64 (x2 - (1 : Int))))) (orI .u32 (nthN (List.set xs ((0 : Nat) + (Int.toNat x2)) (orI .u32 (nthN xs ((0 : Nat) + (Int.toNat x2)) (dflt (.int .u32))) (wu32 (shrI .u64 (shrI .u64 (shlI .u64 (wu64 (nth x x2 (dflt (.int .u32)))) (32 : Int)) by_) (32 : Int))))) ((0 : Nat) + (Int.toNat (w64 (x2 - (1 : Int))))) (dflt (.int .u32))) (wu32 (shrI .u64 (shlI .u64 (wu64 (nth x x2 (dflt (.int .u32)))) (32 : Int)) by_)))))) <|
            .obl ((List.length xs) = (List.length (List.set (List.set xs ((0 : Nat) + (Int.toNat x2)) (orI .u32 (nthN xs ((0 : Nat) + (Int.toNat x2)) (dflt (.int .u32))) (wu32 (shrI .u64 (shrI .u64 (shlI .u64 (wu64 (nth x x2 (dflt (.int .u32)))) (32 : Int)) by_) (32 : Int))))) ((0 : Nat) + (Int.toNat (w64 (x2 - (1 : Int))))) (orI .u32 (nthN (List.set xs ((0 : Nat) + (Int.toNat x2)) (orI .u32 (nthN xs ((0 : Nat) + (Int.toNat x2)) (dflt (.int .u32))) (wu32 (shrI .u64 (shrI .u64 (shlI .u64 (wu64 (nth x x2 (dflt (.int .u32)))) (32 : Int)) by_) (32 : Int))))) ((0 : Nat) + (Int.toNat (w64 (x2 - (1 : Int))))) (dflt (.int .u32))) (wu32 (shrI .u64 (shlI .u64 (wu64 (nth x x2 (dflt (.int .u32)))) (32 : Int)) by_)))))) <|
            .ret (.inl ((w64 (x2 + (1 : Int))), (List.set (List.set xs ((0 : Nat) + (Int.toNat x2)) (orI .u32 (nthN xs ((0 : Nat) + (Int.toNat x2)) (dflt (.int .u32))) (wu32 (shrI .u64 (shrI .u64 (shlI .u64 (wu64 (nth x x2 (dflt (.int .u32)))) (32 : Int)) by_) (32 : Int))))) ((0 : Nat) + (Int.toNat (w64 (x2 - (1 : Int))))) (orI .u32 (nthN (List.set xs ((0 : Nat) + (Int.toNat x2)) (orI .u32 (nthN xs ((0 : Nat) + (Int.toNat x2)) (dflt (.int .u32))) (wu32 (shrI .u64 (shrI .u64 (shlI .u64 (wu64 (nth x x2 (dflt (.int .u32)))) (32 : Int)) by_) (32 : Int))))) ((0 : Nat) + (Int.toNat (w64 (x2 - (1 : Int))))) (dflt (.int .u32))) (wu32 (shrI .u64 (shlI .u64 (wu64 (nth x x2 (dflt (.int .u32)))) (32 : Int)) by_)))))))
          (.obl (curOk (List.length xs) (0 : Nat) (List.length xs) (List.length (List.set xs ((0 : Nat) + (Int.toNat x2)) (orI .u32 (nthN xs ((0 : Nat) + (Int.toNat x2)) (dflt (.int .u32))) (wu32 (shrI .u64 (shrI .u64 (shlI .u64 (wu64 (nth x x2 (dflt (.int .u32)))) (32 : Int)) by_) (32 : Int))))))) <|
            .obl ((List.length xs) = (List.length (List.set xs ((0 : Nat) + (Int.toNat x2)) (orI .u32 (nthN xs ((0 : Nat) + (Int.toNat x2)) (dflt (.int .u32))) (wu32 (shrI .u64 (shrI .u64 (shlI .u64 (wu64 (nth x x2 (dflt (.int .u32)))) (32 : Int)) by_) (32 : Int))))))) <|
            .ret (.inl ((w64 (x2 + (1 : Int))), (List.set xs ((0 : Nat) + (Int.toNat x2)) (orI .u32 (nthN xs ((0 : Nat) + (Int.toNat x2)) (dflt (.int .u32))) (wu32 (shrI .u64 (shrI .u64 (shlI .u64 (wu64 (nth x x2 (dflt (.int .u32)))) (32 : Int)) by_) (32 : Int)))))))))
      (.obl (curOk (List.length xs) (0 : Nat) (List.length xs) (List.length xs)) <|
        .obl ((List.length xs) = (List.length xs)) <|
        .ret (.inr xs))
noncomputable def nat_Shift_L0 (by_ : Int) (x : (List Int)) (x1 : Int) (s : (Int × (List Int))) : T ((List Int)) := T.loop (nat_Shift_R0 by_ x x1) s
noncomputable def nat_Shift (a : (List Int)) (n : Int) : T (List Int) :=
  T.bind (nat_trim a) fun a1 =>
  .ite (decide ((minI (maxI n (-4096 : Int)) (4096 : Int)) < (0 : Int)))
    (.obl ((32 : Int) ≠ (0 : Int)) <|
      .ite (decide ((Nat.cast (List.length a1) : Int) ≤ (w64 (Int.tdiv (w64 ((0 : Int) - (minI (maxI n (-4096 : Int)) (4096 : Int)))) (32 : Int)))))
        (.ret ([] : List Int))
        (.obl ((32 : Int) ≠ (0 : Int)) <|
          .obl (mkOk (w64 ((Nat.cast (List.length a1) : Int) - (w64 (Int.tdiv (w64 ((0 : Int) - (minI (maxI n (-4096 : Int)) (4096 : Int)))) (32 : Int))))) (w64 ((Nat.cast (List.length a1) : Int) - (w64 (Int.tdiv (w64 ((0 : Int) - (minI (maxI n (-4096 : Int)) (4096 : Int)))) (32 : Int))))) (4 : Nat)) <|
          .obl (slOk (w64 (Int.tdiv (w64 ((0 : Int) - (minI (maxI n (-4096 : Int)) (4096 : Int)))) (32 : Int))) (Nat.cast (List.length a1) : Int) (List.length a1)) <|
          .obl (curOk (Int.toNat (w64 ((Nat.cast (List.length a1) : Int) - (w64 (Int.tdiv (w64 ((0 : Int) - (minI (maxI n (-4096 : Int)) (4096 : Int)))) (32 : Int)))))) (0 : Nat) (Int.toNat (w64 ((Nat.cast (List.length a1) : Int) - (w64 (Int.tdiv (w64 ((0 : Int) - (minI (maxI n (-4096 : Int)) (4096 : Int)))) (32 : Int)))))) (List.length (List.replicate (Int.toNat (w64 ((Nat.cast (List.length a1) : Int) - (w64 (Int.tdiv (w64 ((0 : Int) - (minI (maxI n (-4096 : Int)) (4096 : Int)))) (32 : Int)))))) (0 : Int)))) <|
          .obl ((Int.toNat (w64 ((Nat.cast (List.length a1) : Int) - (w64 (Int.tdiv (w64 ((0 : Int) - (minI (maxI n (-4096 : Int)) (4096 : Int)))) (32 : Int)))))) = (List.length (List.replicate (Int.toNat (w64 ((Nat.cast (List.length a1) : Int) - (w64 (Int.tdiv (w64 ((0 : Int) - (minI (maxI n (-4096 : Int)) (4096 : Int)))) (32 : Int)))))) (0 : Int)))) <|
          T.bind (nat_Shift_L0 (wu64 (Int.tmod (w64 ((0 : Int) - (minI (maxI n (-4096 : Int)) (4096 : Int)))) (32 : Int))) (cutL (e := (.int .u32)) (w64 (Int.tdiv (w64 ((0 : Int) - (minI (maxI n (-4096 : Int)) (4096 : Int)))) (32 : Int))) (Nat.cast (List.length a1) : Int) a1) (Nat.cast (List.length (cutL (e := (.int .u32)) (w64 (Int.tdiv (w64 ((0 : Int) - (minI (maxI n (-4096 : Int)) (4096 : Int)))) (32 : Int))) (Nat.cast (List.length a1) : Int) a1)) : Int) ((0 : Int), (List.replicate (Int.toNat (w64 ((Nat.cast (List.length a1) : Int) - (w64 (Int.tdiv (w64 ((0 : Int) - (minI (maxI n (-4096 : Int)) (4096 : Int)))) (32 : Int)))))) (0 : Int)))) fun xs1 =>
          .obl ((List.length xs1) = (List.length xs1)) <|
          T.bind (nat_trim (List.drop (0 : Nat) (List.take ((0 : Nat) + (List.length xs1)) xs1))) fun r =>
          .ret r))
    (.obl ((32 : Int) ≠ (0 : Int)) <|
      .obl (mkOk (w64 ((w64 ((w64 (Int.tdiv (minI (maxI n (-4096 : Int)) (4096 : Int)) (32 : Int))) + (Nat.cast (List.length a1) : Int))) + (1 : Int))) (w64 ((w64 ((w64 (Int.tdiv (minI (maxI n (-4096 : Int)) (4096 : Int)) (32 : Int))) + (Nat.cast (List.length a1) : Int))) + (1 : Int))) (4 : Nat)) <|
      .obl (slOk (w64 (Int.tdiv (minI (maxI n (-4096 : Int)) (4096 : Int)) (32 : Int))) (Nat.cast (Int.toNat (w64 ((w64 ((w64 (Int.tdiv (minI (maxI n (-4096 : Int)) (4096 : Int)) (32 : Int))) + (Nat.cast (List.length a1) : Int))) + (1 : Int)))) : Int) (Int.toNat (w64 ((w64 ((w64 (Int.tdiv (minI (maxI n (-4096 : Int)) (4096 : Int)) (32 : Int))) + (Nat.cast (List.length a1) : Int))) + (1 : Int))))) <|
      .obl ((32 : Int) ≠ (0 : Int)) <|
      T.bind (nat_left a1 (wu64 (Int.tmod (minI (maxI n (-4096 : Int)) (4096 : Int)) (32 : Int))) (w64 ((Nat.cast (List.length a1) : Int) + (1 : Int)))) fun r1 =>
      .obl (cpyOk (Int.toNat (w64 ((w64 ((w64 (Int.tdiv (minI (maxI n (-4096 : Int)) (4096 : Int)) (32 : Int))) + (Nat.cast (List.length a1) : Int))) + (1 : Int)))) (Int.toNat (w64 ((w64 ((w64 (Int.tdiv (minI (maxI n (-4096 : Int)) (4096 : Int)) (32 : Int))) + (Nat.cast (List.length a1) : Int))) + (1 : Int)))) ((0 : Nat) + (Int.toNat (w64 (Int.tdiv (minI (maxI n (-4096 : Int)) (4096 : Int)) (32 : Int))))) ((Int.toNat (Nat.cast (Int.toNat (w64 ((w64 ((w64 (Int.tdiv (minI (maxI n (-4096 : Int)) (4096 : Int)) (32 : Int))) + (Nat.cast (List.length a1) : Int))) + (1 : Int)))) : Int)) - (Int.toNat (w64 (Int.tdiv (minI (maxI n (-4096 : Int)) (4096 : Int)) (32 : Int))))) (List.length (List.replicate (Int.toNat (w64 ((w64 ((w64 (Int.tdiv (minI (maxI n (-4096 : Int)) (4096 : Int)) (32 : Int))) + (Nat.cast (List.length a1) : Int))) + (1 : Int)))) (0 : Int)))) <|
      .obl ((Int.toNat (w64 ((w64 ((w64 (Int.tdiv (minI (maxI n (-4096 : Int)) (4096 : Int)) (32 : Int))) + (Nat.cast (List.length a1) : Int))) + (1 : Int)))) = (Int.toNat (w64 ((w64 ((w64 (Int.tdiv (minI (maxI n (-4096 : Int)) (4096 : Int)) (32 : Int))) + (Nat.cast (List.length a1) : Int))) + (1 : Int))))) <|
      T.bind (nat_trim (List.drop (0 : Nat) (List.take ((0 : Nat) + (Int.toNat (w64 ((w64 ((w64 (Int.tdiv (minI (maxI n (-4096 : Int)) (4096 : Int)) (32 : Int))) + (Nat.cast (List.length a1) : Int))) + (1 : Int))))) (copyL ((0 : Nat) + (Int.toNat (w64 (Int.tdiv (minI (maxI n (-4096 : Int)) (4096 : Int)) (32 : Int))))) ((Int.toNat (Nat.cast (Int.toNat (w64 ((w64 ((w64 (Int.tdiv (minI (maxI n (-4096 : Int)) (4096 : Int)) (32 : Int))) + (Nat.cast (List.length a1) : Int))) + (1 : Int)))) : Int)) - (Int.toNat (w64 (Int.tdiv (minI (maxI n (-4096 : Int)) (4096 : Int)) (32 : Int))))) (List.replicate (Int.toNat (w64 ((w64 ((w64 (Int.tdiv (minI (maxI n (-4096 : Int)) (4096 : Int)) (32 : Int))) + (Nat.cast (List.length a1) : Int))) + (1 : Int)))) (0 : Int)) r1)))) fun r2 =>
      .ret r2)
/-- pantograph/nat.long -/
noncomputable def nat_long_R0 (by_ : Int) (d : (List Int)) (n : Int) : (Int × (List Int) × (List Int)) → T ((Int × (List Int) × (List Int)) ⊕ (((List Int) × (List Int))))
  | (i, xs2, xs3) =>
    .ite (decide ((0 : Int) ≤ i))
      (.obl (idxOk (w64 (i + n)) (List.length xs2)) <|
        .obl (eOk (List.length xs2) (List.length xs2) ((0 : Nat) + (Int.toNat (w64 (i + n)))) (List.length xs2)) <|
        .obl (idxOk (w64 ((w64 (i + n)) - (1 : Int))) (List.length xs2)) <|
        .obl (eOk (List.length xs2) (List.length xs2) ((0 : Nat) + (Int.toNat (w64 ((w64 (i + n)) - (1 : Int))))) (List.length xs2)) <|
        .obl (idxOk (w64 ((w64 (i + n)) - (2 : Int))) (List.length xs2)) <|
        .obl (eOk (List.length xs2) (List.length xs2) ((0 : Nat) + (Int.toNat (w64 ((w64 (i + n)) - (2 : Int))))) (List.length xs2)) <|
        .obl (idxOk (w64 (n - (1 : Int))) (List.length d)) <|
        .obl (idxOk (w64 (n - (2 : Int))) (List.length d)) <|
        T.bind (nat_guess (nthN xs2 ((0 : Nat) + (Int.toNat (w64 (i + n)))) (dflt (.int .u32))) (nthN xs2 ((0 : Nat) + (Int.toNat (w64 ((w64 (i + n)) - (1 : Int))))) (dflt (.int .u32))) (nthN xs2 ((0 : Nat) + (Int.toNat (w64 ((w64 (i + n)) - (2 : Int))))) (dflt (.int .u32))) (nth d (w64 (n - (1 : Int))) (dflt (.int .u32))) (nth d (w64 (n - (2 : Int))) (dflt (.int .u32)))) fun x =>
        T.bind (.obl (slOk i (w64 ((w64 (i + n)) + (1 : Int))) (List.length xs2)) <|
            .obl ((List.length xs2) = (List.length xs2)) <|
            .obl ((List.length xs2) = (List.length xs2)) <|
            T.bind (nat_takes_S (((0 : Nat) + (Int.toNat i)), ((Int.toNat (w64 ((w64 (i + n)) + (1 : Int)))) - (Int.toNat i))) d x xs2) fun (r1, u) =>
            .ite r1
              (.obl (curOk (List.length xs3) (0 : Nat) (List.length xs3) (List.length xs3)) <|
                .obl (curOk (List.length xs2) (0 : Nat) (List.length xs2) (List.length u)) <|
                .obl ((List.length u) = (List.length u)) <|
                .obl ((List.length xs3) = (List.length xs3)) <|
                .ret ((wu64 (x - (1 : Int))), (u, xs3)))
              (.obl (curOk (List.length xs3) (0 : Nat) (List.length xs3) (List.length xs3)) <|
                .obl (curOk (List.length xs2) (0 : Nat) (List.length xs2) (List.length u)) <|
                .obl ((List.length u) = (List.length u)) <|
                .obl ((List.length xs3) = (List.length xs3)) <|
                .ret (x, (u, xs3))) : T ((Int × (List Int) × (List Int)))) fun (x1, xs4, xs5) =>
        .obl (idxOk i (List.length xs5)) <|
        .obl (eOk (List.length xs5) (List.length xs5) ((0 : Nat) + (Int.toNat i)) (List.length xs5)) <|
        .obl (curOk (List.length xs5) (0 : Nat) (List.length xs5) (List.length (List.set xs5 ((0 : Nat) + (Int.toNat i)) (wu32 x1)))) <|
        .obl (curOk (List.length xs4) (0 : Nat) (List.length xs4) (List.length xs4)) <|
        .obl ((List.length xs4) = (List.length xs4)) <|
        .obl ((List.length xs5) = (List.length (List.set xs5 ((0 : Nat) + (Int.toNat i)) (wu32 x1)))) <|
        .ret (.inl ((w64 (i - (1 : Int))), (xs4, (List.set xs5 ((0 : Nat) + (Int.toNat i)) (wu32 x1))))))
      (.obl (curOk (List.length xs3) (0 : Nat) (List.length xs3) (List.length xs3)) <|
        .obl (curOk (List.length xs2) (0 : Nat) (List.length xs2) (List.length xs2)) <|
        .obl ((List.length xs2) = (List.length xs2)) <|
        .obl ((List.length xs3) = (List.length xs3)) <|
        .ret (.inr (xs2, xs3)))
noncomputable def nat_long_L0 (by_ : Int) (d : (List Int)) (n : Int) (s : (Int × (List Int) × (List Int))) : T (((List Int) × (List Int))) := T.loop (nat_long_R0 by_ d n) s
noncomputable def nat_long (a : (List Int)) (b : (List Int)) : T ((List Int) × (List Int)) :=
  .obl (idxOk (w64 ((Nat.cast (List.length b) : Int) - (1 : Int))) (List.length b)) <|
  T.bind (math_bits_LeadingZeros32 (nth b (w64 ((Nat.cast (List.length b) : Int) - (1 : Int))) (dflt (.int .u32)))) fun r =>
  T.bind (nat_left_S a (wu64 r) (w64 ((Nat.cast (List.length a) : Int) + (1 : Int)))) fun xs =>
  T.bind (nat_left_S b (wu64 r) (Nat.cast (List.length b) : Int)) fun xs1 =>
  .obl (mkOk (w64 ((w64 ((Nat.cast (List.length a) : Int) - (Nat.cast (List.length xs1) : Int))) + (1 : Int))) (w64 ((w64 ((Nat.cast (List.length a) : Int) - (Nat.cast (List.length xs1) : Int))) + (1 : Int))) (4 : Nat)) <|
  .obl ((List.length xs1) = (List.length xs1)) <|
  .obl (curOk (Int.toNat (w64 ((w64 ((Nat.cast (List.length a) : Int) - (Nat.cast (List.length xs1) : Int))) + (1 : Int)))) (0 : Nat) (Int.toNat (w64 ((w64 ((Nat.cast (List.length a) : Int) - (Nat.cast (List.length xs1) : Int))) + (1 : Int)))) (List.length (List.replicate (Int.toNat (w64 ((w64 ((Nat.cast (List.length a) : Int) - (Nat.cast (List.length xs1) : Int))) + (1 : Int)))) (0 : Int)))) <|
  .obl (curOk (List.length xs) (0 : Nat) (List.length xs) (List.length xs)) <|
  .obl ((List.length xs) = (List.length xs)) <|
  .obl ((Int.toNat (w64 ((w64 ((Nat.cast (List.length a) : Int) - (Nat.cast (List.length xs1) : Int))) + (1 : Int)))) = (List.length (List.replicate (Int.toNat (w64 ((w64 ((Nat.cast (List.length a) : Int) - (Nat.cast (List.length xs1) : Int))) + (1 : Int)))) (0 : Int)))) <|
  T.bind (nat_long_L0 (wu64 r) (List.drop (0 : Nat) (List.take ((0 : Nat) + (List.length xs1)) xs1)) (Nat.cast (List.length xs1) : Int) ((w64 ((Nat.cast (Int.toNat (w64 ((w64 ((Nat.cast (List.length a) : Int) - (Nat.cast (List.length xs1) : Int))) + (1 : Int)))) : Int) - (1 : Int))), (xs, (List.replicate (Int.toNat (w64 ((w64 ((Nat.cast (List.length a) : Int) - (Nat.cast (List.length xs1) : Int))) + (1 : Int)))) (0 : Int))))) fun (xs6, xs7) =>
  .obl ((List.length xs7) = (List.length xs7)) <|
  .obl ((List.length xs6) = (List.length xs6)) <|
  T.bind (nat_trim (List.drop (0 : Nat) (List.take ((0 : Nat) + (List.length xs7)) xs7))) fun q1 =>
  .obl (slOk (0 : Int) (Nat.cast (List.length xs1) : Int) (List.length (List.drop (0 : Nat) (List.take ((0 : Nat) + (List.length xs6)) xs6)))) <|
  T.bind (nat_Shift (cutL (e := (.int .u32)) (0 : Int) (Nat.cast (List.length xs1) : Int) (List.drop (0 : Nat) (List.take ((0 : Nat) + (List.length xs6)) xs6))) (w64 ((0 : Int) - (w64 (wu64 r))))) fun r2 =>
  .ret (q1, r2)
/-- pantograph/nat.DivMod -/
noncomputable def nat_DivMod (a : (List Int)) (b : (List Int)) : T ((List Int) × (List Int) × Bool) :=
  T.bind (nat_trim a) fun a1 =>
  T.bind (nat_trim b) fun b1 =>
  .ite ((Nat.cast (List.length b1) : Int) == (0 : Int))
    (.ret (([] : List Int), (([] : List Int), false)))
    (T.bind (nat_Cmp a1 b1) fun r =>
      .ite (decide (r < (0 : Int)))
        (T.bind (nat_Trim a1) fun r1 =>
          .ret (([] : List Int), (r1, true)))
        (.ite ((Nat.cast (List.length b1) : Int) == (1 : Int))
            (.obl (idxOk (0 : Int) (List.length b1)) <|
              T.bind (nat_small a1 (nth b1 (0 : Int) (dflt (.int .u32)))) fun (q, rest) =>
              T.bind (nat_Of (wu64 rest)) fun r2 =>
              .ret (q, (r2, true)))
            (T.bind (nat_long a1 b1) fun (q1, r3) =>
              .ret (q1, (r3, true)))))
/-- pantograph/nat.Gcd -/
noncomputable def nat_Gcd_R0  : ((List Int) × (List Int)) → T (((List Int) × (List Int)) ⊕ ((List Int)))
  | (a2, b2) =>
    .ite (decide ((0 : Int) < (Nat.cast (List.length b2) : Int)))
      (T.bind (nat_DivMod a2 b2) fun (r, r1, r2) =>
        .ret (.inl (b2, r1)))
      (.ret (.inr a2))
noncomputable def nat_Gcd_L0  (s : ((List Int) × (List Int))) : T ((List Int)) := T.loop (nat_Gcd_R0 ) s
noncomputable def nat_Gcd (a : (List Int)) (b : (List Int)) : T (List Int) :=
  T.bind (nat_Trim a) fun a1 =>
  T.bind (nat_Trim b) fun b1 =>
  T.bind (nat_Gcd_L0  (a1, b1)) fun a3 =>
  .ret a3
/-- pantograph/rat.Of -/
noncomputable def rat_Of (neg : Bool) (n : (List Int)) (d : (List Int)) : T Rat :=
  T.bind (nat_Trim n) fun n1 =>
  T.bind (nat_Trim d) fun d1 =>
  .ite (((Nat.cast (List.length n1) : Int) == (0 : Int)) || ((Nat.cast (List.length d1) : Int) == (0 : Int)))
    (T.bind (nat_Of (1 : Int)) fun r =>
      .ret (false, (([] : List Int), (r, ()))))
    (T.bind (nat_Gcd n1 d1) fun g =>
      T.bind (nat_DivMod n1 g) fun (n2, r1, r2) =>
      T.bind (nat_DivMod d1 g) fun (d2, r3, r4) =>
      .ret (neg, (n2, (d2, ()))))
/-- pantograph/rat.Norm -/
noncomputable def rat_Norm (a : Rat) : T Rat :=
  T.bind (rat_Of a.1 a.2.1 a.2.2.1) fun r =>
  .ret r
/-- pantograph/dec.sign -/
noncomputable def dec_sign (a : Rat) : T Str :=
  .ite a.1
    (.ret ([45] : Str))
    (.ret ([] : Str))
/-- slices.Reverse[[]byte,byte] -/
noncomputable def slices_Reverse_sl_byte_S_R0  : ((Nat × Nat) × Int × Int × (List Int)) → T (((Nat × Nat) × Int × Int × (List Int)) ⊕ ((List Int)))
  | (s1, i, j, xs) =>
    .ite (decide (i < j))
      (.obl (idxOk j s1.2) <|
        .obl (eOk (List.length xs) (List.length xs) (s1.1 + (Int.toNat j)) (List.length xs)) <|
        .obl (idxOk i s1.2) <|
        .obl (eOk (List.length xs) (List.length xs) (s1.1 + (Int.toNat i)) (List.length xs)) <|
        .obl (idxOk i s1.2) <|
        .obl (eOk (List.length xs) (List.length xs) (s1.1 + (Int.toNat i)) (List.length xs)) <|
        .obl (idxOk j s1.2) <|
        .obl (eOk (List.length xs) (List.length xs) (s1.1 + (Int.toNat j)) (List.length (List.set xs (s1.1 + (Int.toNat i)) (nthN xs (s1.1 + (Int.toNat j)) (dflt (.int .u8)))))) <|
        .obl ((List.length xs) = (List.length xs)) <|
        .obl ((List.length xs) = (List.length (List.set (List.set xs (s1.1 + (Int.toNat i)) (nthN xs (s1.1 + (Int.toNat j)) (dflt (.int .u8)))) (s1.1 + (Int.toNat j)) (nthN xs (s1.1 + (Int.toNat i)) (dflt (.int .u8)))))) <|
        .ret (.inl (s1, ((w64 (i + (1 : Int))), ((w64 (j - (1 : Int))), (List.set (List.set xs (s1.1 + (Int.toNat i)) (nthN xs (s1.1 + (Int.toNat j)) (dflt (.int .u8)))) (s1.1 + (Int.toNat j)) (nthN xs (s1.1 + (Int.toNat i)) (dflt (.int .u8)))))))))
      (.obl ((List.length xs) = (List.length xs)) <|
        .ret (.inr xs))
noncomputable def slices_Reverse_sl_byte_S_L0  (s : ((Nat × Nat) × Int × Int × (List Int))) : T ((List Int)) := T.loop (slices_Reverse_sl_byte_S_R0 ) s
noncomputable def slices_Reverse_sl_byte_S (sw : (Nat × Nat)) (s : (List Int)) : T (List Int) :=
  .obl ((List.length s) = (List.length s)) <|
  .obl ((List.length s) = (List.length s)) <|
  T.bind (slices_Reverse_sl_byte_S_L0  (sw, ((0 : Int), ((w64 ((Nat.cast sw.2 : Int) - (1 : Int))), s)))) fun xs1 =>
  .obl ((List.length xs1) = (List.length xs1)) <|
  .ret xs1
/-- pantograph/nat.Print -/
noncomputable def nat_Print_R1 (q1 : (List Int)) : (Int × Int × (List Int)) → T ((Int × Int × (List Int)) ⊕ ((List Int)))
  | (rest1, x, xs1) =>
    .ite (decide (x < (9 : Int)))
      (.obl ((10 : Int) ≠ (0 : Int)) <|
        .obl (idxOk (Int.tmod rest1 (10 : Int)) (List.length ([48, 49, 50, 51, 52, 53, 54, 55, 56, 57] : Str))) <|
        .obl (appOk (List.length xs1) (List.length xs1) (0 : Nat) (List.length xs1) (List.length xs1) (1 : Nat) (1 : Nat)) <|
        .obl ((10 : Int) ≠ (0 : Int)) <|
        .obl (curOk ((List.length xs1) + (1 : Nat)) (0 : Nat) ((List.length xs1) + (1 : Nat)) (List.length (xs1 ++ ([(byteAt ([48, 49, 50, 51, 52, 53, 54, 55, 56, 57] : Str) (Int.tmod rest1 (10 : Int)))] : List Int)))) <|
        .obl (((List.length xs1) + (1 : Nat)) = (List.length (xs1 ++ ([(byteAt ([48, 49, 50, 51, 52, 53, 54, 55, 56, 57] : Str) (Int.tmod rest1 (10 : Int)))] : List Int)))) <|
        .ret (.inl ((wu32 (Int.tdiv rest1 (10 : Int))), ((w64 (x + (1 : Int))), (xs1 ++ ([(byteAt ([48, 49, 50, 51, 52, 53, 54, 55, 56, 57] : Str) (Int.tmod rest1 (10 : Int)))] : List Int))))))
      (.obl (curOk (List.length xs1) (0 : Nat) (List.length xs1) (List.length xs1)) <|
        .obl ((List.length xs1) = (List.length xs1)) <|
        .ret (.inr xs1))
noncomputable def nat_Print_L1 (q1 : (List Int)) (s : (Int × Int × (List Int))) : T ((List Int)) := T.loop (nat_Print_R1 q1) s
noncomputable def nat_Print_R0  : ((List Int) × (List Int)) → T (((List Int) × (List Int)) ⊕ ((List Int)))
  | (a2, xs) =>
    .ite (decide ((0 : Int) < (Nat.cast (List.length a2) : Int)))
      (T.bind (nat_small a2 (1000000000 : Int)) fun (q, rest) =>
        .obl (curOk (List.length xs) (0 : Nat) (List.length xs) (List.length xs)) <|
        .obl ((List.length xs) = (List.length xs)) <|
        T.bind (nat_Print_L1 q (rest, ((0 : Int), xs))) fun xs2 =>
        .obl (curOk (List.length xs2) (0 : Nat) (List.length xs2) (List.length xs2)) <|
        .obl ((List.length xs2) = (List.length xs2)) <|
        .ret (.inl (q, xs2)))
      (.obl (curOk (List.length xs) (0 : Nat) (List.length xs) (List.length xs)) <|
        .obl ((List.length xs) = (List.length xs)) <|
        .ret (.inr xs))
noncomputable def nat_Print_L0  (s : ((List Int) × (List Int))) : T ((List Int)) := T.loop (nat_Print_R0 ) s
noncomputable def nat_Print_R2  : ((Nat × Nat) × (List Int)) → T (((Nat × Nat) × (List Int)) ⊕ (((Nat × Nat) × (List Int))))
  | (b, xs4) =>
    .obl (((decide ((1 : Int) < (Nat.cast b.2 : Int))) = true) → ((idxOk (w64 ((Nat.cast b.2 : Int) - (1 : Int))) b.2) ∧ (eOk (List.length xs4) (List.length xs4) (b.1 + (Int.toNat (w64 ((Nat.cast b.2 : Int) - (1 : Int))))) (List.length xs4)))) <|
    .ite ((decide ((1 : Int) < (Nat.cast b.2 : Int))) && ((nthN xs4 (b.1 + (Int.toNat (w64 ((Nat.cast b.2 : Int) - (1 : Int))))) (dflt (.int .u8))) == (48 : Int)))
      (.obl (slOk (0 : Int) (w64 ((Nat.cast b.2 : Int) - (1 : Int))) b.2) <|
        .obl ((List.length xs4) = (List.length xs4)) <|
        .obl ((List.length xs4) = (List.length xs4)) <|
        .ret (.inl (((b.1 + (Int.toNat (0 : Int))), ((Int.toNat (w64 ((Nat.cast b.2 : Int) - (1 : Int)))) - (Int.toNat (0 : Int)))), xs4)))
      (.obl ((List.length xs4) = (List.length xs4)) <|
        .obl ((List.length xs4) = (List.length xs4)) <|
        .ret (.inr (b, xs4)))
noncomputable def nat_Print_L2  (s : ((Nat × Nat) × (List Int))) : T (((Nat × Nat) × (List Int))) := T.loop (nat_Print_R2 ) s
noncomputable def nat_Print (a : (List Int)) : T Str :=
  T.bind (nat_Trim a) fun a1 =>
  .ite ((Nat.cast (List.length a1) : Int) == (0 : Int))
    (.ret ([48] : Str))
    (.obl (curOk (0 : Nat) (0 : Nat) (0 : Nat) (0 : Nat)) <|
      .obl ((0 : Nat) = (0 : Nat)) <|
      T.bind (nat_Print_L0  (a1, ([] : List Int))) fun xs3 =>
      .obl ((List.length xs3) = (List.length xs3)) <|
      .obl ((List.length xs3) = (List.length xs3)) <|
      T.bind (nat_Print_L2  (((0 : Nat), (List.length xs3)), xs3)) fun (b1, xs5) =>
      .obl ((List.length xs5) = (List.length xs5)) <|
      .obl ((List.length xs5) = (List.length xs5)) <|
      T.bind (slices_Reverse_sl_byte_S b1 xs5) fun b2 =>
      .obl ((List.length xs5) = (List.length b2)) <|
      .ret (bytesStr (List.drop b1.1 (List.take (b1.1 + b1.2) b2))))
/-- pantograph/dec.Print -/
noncomputable def dec_Print (a : Rat) : T Str :=
  T.bind (rat_Norm a) fun r =>
  T.bind (dec_sign r) fun r1 =>
  T.bind (nat_Print r.2.1) fun r2 =>
  .obl (((List.length r1) + (List.length r2)) ≤ (4611686018427387904 : Nat)) <|
  T.bind (nat_Of (1 : Int)) fun r3 =>
  T.bind (nat_Cmp r.2.2.1 r3) fun r4 =>
  .ite (r4 != (0 : Int))
    (T.bind (nat_Print r.2.2.1) fun r5 =>
      .obl (((List.length ([47] : Str)) + (List.length r5)) ≤ (4611686018427387904 : Nat)) <|
      .obl (((List.length (cat r1 r2)) + (List.length (cat ([47] : Str) r5))) ≤ (4611686018427387904 : Nat)) <|
      .ret (cat (cat r1 r2) (cat ([47] : Str) r5)))
    (.ret (cat r1 r2))
/-- (*strings.Builder).copyCheck -/
noncomputable def bld_copyCheck (v : Unit) (l : List Int) : T (Unit × List Int) := .ret (v, l)
/-- (*strings.Builder).WriteString -/
noncomputable def strings_Builder_WriteString_S (s : Str) (b : (Unit)) (xs : (List Int)) : T (Int × (Unit) × (List Int)) :=
  .obl (curOk (List.length xs) (0 : Nat) (List.length xs) (List.length xs)) <|
  .obl ((List.length xs) = (List.length xs)) <|
  T.bind (bld_copyCheck () xs) fun (b1, xs1) =>
  .obl (appOk (List.length xs1) (List.length xs1) (0 : Nat) (List.length xs1) (List.length xs1) (List.length (bytesOf s)) (1 : Nat)) <|
  .obl (curOk ((List.length xs1) + (List.length (bytesOf s))) (0 : Nat) ((List.length xs1) + (List.length (bytesOf s))) (List.length (xs1 ++ (bytesOf s)))) <|
  .obl (((List.length xs1) + (List.length (bytesOf s))) = (List.length (xs1 ++ (bytesOf s)))) <|
  .ret ((Nat.cast (List.length s) : Int), ((), (xs1 ++ (bytesOf s))))
/-- (*strings.Builder).String -/
noncomputable def bld_String (v : Unit) (l : List Int) : T (Str × Unit) := strT l
/-- pantograph/record.Encode -/
noncomputable def record_Encode_R0 (x : (List record_Item)) (x1 : Int) : (Int × (Unit) × (List Int)) → T ((Int × (Unit) × (List Int)) ⊕ (((Unit) × (List Int))))
  | (x2, v, xs) =>
    .ite (decide (x2 < x1))
      (.obl (idxOk x2 (List.length x)) <|
        .obl (((List.length (nth x x2 (dflt tyrecord_Item)).1) + (List.length ([32] : Str))) ≤ (4611686018427387904 : Nat)) <|
        T.bind (dec_Print ((nth x x2 (dflt tyrecord_Item)).2.1.1, ((nth x x2 (dflt tyrecord_Item)).2.1.2.1, ((nth x x2 (dflt tyrecord_Item)).2.1.2.2.1, ())))) fun r =>
        .obl (((List.length (cat (nth x x2 (dflt tyrecord_Item)).1 ([32] : Str))) + (List.length r)) ≤ (4611686018427387904 : Nat)) <|
        .obl (((List.length (cat (cat (nth x x2 (dflt tyrecord_Item)).1 ([32] : Str)) r)) + (List.length ([10] : Str))) ≤ (4611686018427387904 : Nat)) <|
        .obl (curOk (List.length xs) (0 : Nat) (List.length xs) (List.length xs)) <|
        .obl ((List.length xs) = (List.length xs)) <|
        T.bind (strings_Builder_WriteString_S (cat (cat (cat (nth x x2 (dflt tyrecord_Item)).1 ([32] : Str)) r) ([10] : Str)) () xs) fun (r1, w, xs1) =>
        .obl (curOk (List.length xs1) (0 : Nat) (List.length xs1) (List.length xs1)) <|
        .obl ((List.length xs1) = (List.length xs1)) <|
        .ret (.inl ((w64 (x2 + (1 : Int))), ((), xs1))))
      (.obl (curOk (List.length xs) (0 : Nat) (List.length xs) (List.length xs)) <|
        .obl ((List.length xs) = (List.length xs)) <|
        .ret (.inr ((), xs)))
noncomputable def record_Encode_L0 (x : (List record_Item)) (x1 : Int) (s : (Int × (Unit) × (List Int))) : T (((Unit) × (List Int))) := T.loop (record_Encode_R0 x x1) s
noncomputable def record_Encode (l : (List record_Item)) : T Str :=
  .obl (curOk (0 : Nat) (0 : Nat) (0 : Nat) (0 : Nat)) <|
  .obl ((0 : Nat) = (0 : Nat)) <|
  T.bind (record_Encode_L0 l (Nat.cast (List.length l) : Int) ((0 : Int), ((), ([] : List Int)))) fun (v1, xs2) =>
  .obl (curOk (List.length xs2) (0 : Nat) (List.length xs2) (List.length xs2)) <|
  .obl ((List.length xs2) = (List.length xs2)) <|
  T.bind (bld_String () xs2) fun (r2, w1) =>
  .ret r2
/-- pantograph/pantographlaw21.known -/
noncomputable def law21_known  : T Bool :=
  T.bind (record_Encode ([(([97] : Str), ((false, (([(1 : Int)] : List Int), (([(3 : Int)] : List Int), ()))), ()))] : List record_Item)) fun r =>
  .ret (strEq r ([97, 32, 49, 47, 51, 10] : Str))
/-- strings.Cut -/
noncomputable def strings_Cut (s : Str) (sep : Str) : T (Str × Str × Bool) :=
  .obl ((List.length s) < 4294967281) <|
  .ret (cutSt s sep)
/-- strings.CutPrefix -/
noncomputable def strings_CutPrefix (s : Str) (p : Str) : T (Str × Bool) :=
  .ret (trimPre s p, List.isPrefixOf p s)
/-- strings.trimRightByte -/
noncomputable def strings_trimRightByte_R0 (c1 : Int) : Str → T (Str ⊕ (Str))
  | s1 =>
    .obl (((decide ((0 : Int) < (Nat.cast (List.length s1) : Int))) = true) → (idxOk (w64 ((Nat.cast (List.length s1) : Int) - (1 : Int))) (List.length s1))) <|
    .ite ((decide ((0 : Int) < (Nat.cast (List.length s1) : Int))) && ((byteAt s1 (w64 ((Nat.cast (List.length s1) : Int) - (1 : Int)))) == c1))
      (.obl (slOk (0 : Int) (w64 ((Nat.cast (List.length s1) : Int) - (1 : Int))) (List.length s1)) <|
        .ret (.inl (cutS (0 : Int) (w64 ((Nat.cast (List.length s1) : Int) - (1 : Int))) s1)))
      (.ret (.inr s1))
noncomputable def strings_trimRightByte_L0 (c1 : Int) (s : Str) : T (Str) := T.loop (strings_trimRightByte_R0 c1) s
noncomputable def strings_trimRightByte (s : Str) (c : Int) : T Str :=
  T.bind (strings_trimRightByte_L0 c s) fun s2 =>
  .ret s2
/-- strings.trimLeftByte -/
noncomputable def strings_trimLeftByte_R0 (c1 : Int) : Str → T (Str ⊕ (Str))
  | s1 =>
    .obl (((decide ((0 : Int) < (Nat.cast (List.length s1) : Int))) = true) → (idxOk (0 : Int) (List.length s1))) <|
    .ite ((decide ((0 : Int) < (Nat.cast (List.length s1) : Int))) && ((byteAt s1 (0 : Int)) == c1))
      (.obl (slOk (1 : Int) (Nat.cast (List.length s1) : Int) (List.length s1)) <|
        .ret (.inl (cutS (1 : Int) (Nat.cast (List.length s1) : Int) s1)))
      (.ret (.inr s1))
noncomputable def strings_trimLeftByte_L0 (c1 : Int) (s : Str) : T (Str) := T.loop (strings_trimLeftByte_R0 c1) s
noncomputable def strings_trimLeftByte (s : Str) (c : Int) : T Str :=
  T.bind (strings_trimLeftByte_L0 c s) fun s2 =>
  .ret s2
/-- strings.makeASCIISet -/
noncomputable def strings_makeASCIISet (s : Str) : T ((den (arrN .bool 256)) × Bool) :=
  .obl ((List.length s) < 4294967281 ∧ (∀ (j : Nat) b, s[j]? = some b → b.toNat < 128)) <|
  .ret (asciiF s, true)
/-- (*strings.asciiSet).contains -/
noncomputable def strings_asciiSet_contains (as : (den (arrN .bool 256))) (c : Int) : T Bool :=
  .obl (idxOk c (256 : Nat)) <|
  .ret (arrAt .bool (arrN .bool 256) as (Int.toNat c))
/-- strings.trimRightASCII -/
noncomputable def strings_trimRightASCII_R0 (as1 : (den (arrN .bool 256))) : Str → T (Str ⊕ (Str))
  | s1 =>
    .ite (decide ((0 : Int) < (Nat.cast (List.length s1) : Int)))
      (.obl (idxOk (w64 ((Nat.cast (List.length s1) : Int) - (1 : Int))) (List.length s1)) <|
        T.bind (strings_asciiSet_contains as1 (byteAt s1 (w64 ((Nat.cast (List.length s1) : Int) - (1 : Int))))) fun r =>
        .ite (!r)
          (.ret (.inr s1))
          (.obl (slOk (0 : Int) (w64 ((Nat.cast (List.length s1) : Int) - (1 : Int))) (List.length s1)) <|
            .ret (.inl (cutS (0 : Int) (w64 ((Nat.cast (List.length s1) : Int) - (1 : Int))) s1))))
      (.ret (.inr s1))
noncomputable def strings_trimRightASCII_L0 (as1 : (den (arrN .bool 256))) (s : Str) : T (Str) := T.loop (strings_trimRightASCII_R0 as1) s
noncomputable def strings_trimRightASCII (s : Str) (as : (den (arrN .bool 256))) : T Str :=
  T.bind (strings_trimRightASCII_L0 as s) fun s2 =>
  .ret s2
/-- strings.trimLeftASCII -/
noncomputable def strings_trimLeftASCII_R0 (as1 : (den (arrN .bool 256))) : Str → T (Str ⊕ (Str))
  | s1 =>
    .ite (decide ((0 : Int) < (Nat.cast (List.length s1) : Int)))
      (.obl (idxOk (0 : Int) (List.length s1)) <|
        T.bind (strings_asciiSet_contains as1 (byteAt s1 (0 : Int))) fun r =>
        .ite (!r)
          (.ret (.inr s1))
          (.obl (slOk (1 : Int) (Nat.cast (List.length s1) : Int) (List.length s1)) <|
            .ret (.inl (cutS (1 : Int) (Nat.cast (List.length s1) : Int) s1))))
      (.ret (.inr s1))
noncomputable def strings_trimLeftASCII_L0 (as1 : (den (arrN .bool 256))) (s : Str) : T (Str) := T.loop (strings_trimLeftASCII_R0 as1) s
noncomputable def strings_trimLeftASCII (s : Str) (as : (den (arrN .bool 256))) : T Str :=
  T.bind (strings_trimLeftASCII_L0 as s) fun s2 =>
  .ret s2
/-- strings.Trim -/
noncomputable def strings_Trim (s : Str) (cutset : Str) : T Str :=
  .ite ((strEq s ([] : Str)) || (strEq cutset ([] : Str)))
    (.ret s)
    (.obl ((((Nat.cast (List.length cutset) : Int) == (1 : Int)) = true) → (idxOk (0 : Int) (List.length cutset))) <|
      .ite (((Nat.cast (List.length cutset) : Int) == (1 : Int)) && (decide ((byteAt cutset (0 : Int)) < (128 : Int))))
        (.obl (idxOk (0 : Int) (List.length cutset)) <|
          T.bind (strings_trimRightByte s (byteAt cutset (0 : Int))) fun r =>
          .obl (idxOk (0 : Int) (List.length cutset)) <|
          T.bind (strings_trimLeftByte r (byteAt cutset (0 : Int))) fun r1 =>
          .ret r1)
        (T.bind (strings_makeASCIISet cutset) fun (r2, ok) =>
          .ite ok
            (T.bind (strings_trimRightASCII s r2) fun r3 =>
              T.bind (strings_trimLeftASCII r3 r2) fun r4 =>
              .ret r4)
            (.fail)))
/-- pantograph/nat.Mul -/
noncomputable def nat_Mul_R1 (b3 : (List Int)) (i : Int) (v : Int) (x3 : (List Int)) (x4 : Int) (x5 : Int) (x6 : (List Int)) (x7 : Int) : (Int × Int × (List Int)) → T ((Int × Int × (List Int)) ⊕ ((Int × (List Int))))
  | (carry, x8, xs1) =>
    .ite (decide (x8 < x7))
      (.obl (idxOk x8 (List.length x6)) <|
        .obl (idxOk (w64 (i + x8)) (List.length xs1)) <|
        .obl (eOk (List.length xs1) (List.length xs1) ((0 : Nat) + (Int.toNat (w64 (i + x8)))) (List.length xs1)) <|
        .obl (idxOk (w64 (i + x8)) (List.length xs1)) <|
        .obl (eOk (List.length xs1) (List.length xs1) ((0 : Nat) + (Int.toNat (w64 (i + x8)))) (List.length xs1)) <|
        .obl ((0 : Int) ≤ (32 : Int)) <|
        .obl (curOk (List.length xs1) (0 : Nat) (List.length xs1) (List.length (List.set xs1 ((0 : Nat) + (Int.toNat (w64 (i + x8)))) (wu32 (wu64 (carry + (wu64 ((wu64 ((wu64 v) * (wu64 (nth x6 x8 (dflt (.int .u32)))))) + (wu64 (nthN xs1 ((0 : Nat) + (Int.toNat (w64 (i + x8)))) (dflt (.int .u32)))))))))))) <|
        .obl ((List.length xs1) = (List.length (List.set xs1 ((0 : Nat) + (Int.toNat (w64 (i + x8)))) (wu32 (wu64 (carry + (wu64 ((wu64 ((wu64 v) * (wu64 (nth x6 x8 (dflt (.int .u32)))))) + (wu64 (nthN xs1 ((0 : Nat) + (Int.toNat (w64 (i + x8)))) (dflt (.int .u32)))))))))))) <|
        .ret (.inl ((shrI .u64 (wu64 (carry + (wu64 ((wu64 ((wu64 v) * (wu64 (nth x6 x8 (dflt (.int .u32)))))) + (wu64 (nthN xs1 ((0 : Nat) + (Int.toNat (w64 (i + x8)))) (dflt (.int .u32)))))))) (32 : Int)), ((w64 (x8 + (1 : Int))), (List.set xs1 ((0 : Nat) + (Int.toNat (w64 (i + x8)))) (wu32 (wu64 (carry + (wu64 ((wu64 ((wu64 v) * (wu64 (nth x6 x8 (dflt (.int .u32)))))) + (wu64 (nthN xs1 ((0 : Nat) + (Int.toNat (w64 (i + x8)))) (dflt (.int .u32))))))))))))))
      (.obl (curOk (List.length xs1) (0 : Nat) (List.length xs1) (List.length xs1)) <|
        .obl ((List.length xs1) = (List.length xs1)) <|
        .ret (.inr (carry, xs1)))
noncomputable def nat_Mul_L1 (b3 : (List Int)) (i : Int) (v : Int) (x3 : (List Int)) (x4 : Int) (x5 : Int) (x6 : (List Int)) (x7 : Int) (s : (Int × Int × (List Int))) : T ((Int × (List Int))) := T.loop (nat_Mul_R1 b3 i v x3 x4 x5 x6 x7) s
noncomputable def nat_Mul_R0 (b2 : (List Int)) (x : (List Int)) (x1 : Int) : (Int × (List Int)) → T ((Int × (List Int)) ⊕ ((List Int)))
  | (x2, xs) =>
    .ite (decide (x2 < x1))
      (.obl (idxOk x2 (List.length x)) <|
        .obl (curOk (List.length xs) (0 : Nat) (List.length xs) (List.length xs)) <|
        .obl ((List.length xs) = (List.length xs)) <|
        T.bind (nat_Mul_L1 b2 x2 (nth x x2 (dflt (.int .u32))) x x1 x2 b2 (Nat.cast (List.length b2) : Int) ((0 : Int), ((0 : Int), xs))) fun (carry1, xs2) =>
        .obl (idxOk (w64 (x2 + (Nat.cast (List.length b2) : Int))) (List.length xs2)) <|
        .obl (eOk (List.length xs2) (List.length xs2) ((0 : Nat) + (Int.toNat (w64 (x2 + (Nat.cast (List.length b2) : Int))))) (List.length xs2)) <|
        .obl (curOk (List.length xs2) (0 : Nat) (List.length xs2) (List.length (List.set xs2 ((0 : Nat) + (Int.toNat (w64 (x2 + (Nat.cast (List.length b2) : Int))))) (wu32 carry1)))) <|
        .obl ((List.length xs2) = (List.length (List.set xs2 ((0 : Nat) + (Int.toNat (w64 (x2 + (Nat.cast (List.length b2) : Int))))) (wu32 carry1)))) <|
        .ret (.inl ((w64 (x2 + (1 : Int))), (List.set xs2 ((0 : Nat) + (Int.toNat (w64 (x2 + (Nat.cast (List.length b2) : Int))))) (wu32 carry1)))))
      (.obl (curOk (List.length xs) (0 : Nat) (List.length xs) (List.length xs)) <|
        .obl ((List.length xs) = (List.length xs)) <|
        .ret (.inr xs))
noncomputable def nat_Mul_L0 (b2 : (List Int)) (x : (List Int)) (x1 : Int) (s : (Int × (List Int))) : T ((List Int)) := T.loop (nat_Mul_R0 b2 x x1) s
noncomputable def nat_Mul (a : (List Int)) (b : (List Int)) : T (List Int) :=
  T.bind (nat_trim a) fun a1 =>
  T.bind (nat_trim b) fun b1 =>
  .obl (mkOk (w64 ((Nat.cast (List.length a1) : Int) + (Nat.cast (List.length b1) : Int))) (w64 ((Nat.cast (List.length a1) : Int) + (Nat.cast (List.length b1) : Int))) (4 : Nat)) <|
  .obl (curOk (Int.toNat (w64 ((Nat.cast (List.length a1) : Int) + (Nat.cast (List.length b1) : Int)))) (0 : Nat) (Int.toNat (w64 ((Nat.cast (List.length a1) : Int) + (Nat.cast (List.length b1) : Int)))) (List.length (List.replicate (Int.toNat (w64 ((Nat.cast (List.length a1) : Int) + (Nat.cast (List.length b1) : Int)))) (0 : Int)))) <|
  .obl ((Int.toNat (w64 ((Nat.cast (List.length a1) : Int) + (Nat.cast (List.length b1) : Int)))) = (List.length (List.replicate (Int.toNat (w64 ((Nat.cast (List.length a1) : Int) + (Nat.cast (List.length b1) : Int)))) (0 : Int)))) <|
  T.bind (nat_Mul_L0 b1 a1 (Nat.cast (List.length a1) : Int) ((0 : Int), (List.replicate (Int.toNat (w64 ((Nat.cast (List.length a1) : Int) + (Nat.cast (List.length b1) : Int)))) (0 : Int)))) fun xs3 =>
  .obl ((List.length xs3) = (List.length xs3)) <|
  T.bind (nat_trim (List.drop (0 : Nat) (List.take ((0 : Nat) + (List.length xs3)) xs3))) fun r =>
  .ret r
/-- pantograph/nat.Add -/
noncomputable def nat_Add_R0 (a2 : (List Int)) (b2 : (List Int)) (x : (List Int)) (x1 : Int) : (Int × Int × (List Int)) → T ((Int × Int × (List Int)) ⊕ ((Int × (List Int))))
  | (carry, x2, xs) =>
    .ite (decide (x2 < x1))
      (.obl (idxOk x2 (List.length x)) <|
        .obl (((decide (x2 < (Nat.cast (List.length b2) : Int))) = true) → (idxOk x2 (List.length b2))) <|
        .obl (idxOk x2 (List.length xs)) <|
        .obl (eOk (List.length xs) (List.length xs) ((0 : Nat) + (Int.toNat x2)) (List.length xs)) <|
        .obl ((0 : Int) ≤ (32 : Int)) <|
        .obl (curOk (List.length xs) (0 : Nat) (List.length xs) (List.length (List.set xs ((0 : Nat) + (Int.toNat x2)) (wu32 (bif (decide (x2 < (Nat.cast (List.length b2) : Int))) then (wu64 ((wu64 (carry + (wu64 (nth x x2 (dflt (.int .u32)))))) + (wu64 (nth b2 x2 (dflt (.int .u32)))))) else (wu64 (carry + (wu64 (nth x x2 (dflt (.int .u32))))))))))) <|
        .obl ((List.length xs) = (List.length (List.set xs ((0 : Nat) + (Int.toNat x2)) (wu32 (bif (decide (x2 < (Nat.cast (List.length b2) : Int))) then (wu64 ((wu64 (carry + (wu64 (nth x x2 (dflt (.int .u32)))))) + (wu64 (nth b2 x2 (dflt (.int .u32)))))) else (wu64 (carry + (wu64 (nth x x2 (dflt (.int .u32))))))))))) <|
        .ret (.inl ((shrI .u64 (bif (decide (x2 < (Nat.cast (List.length b2) : Int))) then (wu64 ((wu64 (carry + (wu64 (nth x x2 (dflt (.int .u32)))))) + (wu64 (nth b2 x2 (dflt (.int .u32)))))) else (wu64 (carry + (wu64 (nth x x2 (dflt (.int .u32))))))) (32 : Int)), ((w64 (x2 + (1 : Int))), (List.set xs ((0 : Nat) + (Int.toNat x2)) (wu32 (bif (decide (x2 < (Nat.cast (List.length b2) : Int))) then (wu64 ((wu64 (carry + (wu64 (nth x x2 (dflt (.int .u32)))))) + (wu64 (nth b2 x2 (dflt (.int .u32)))))) else (wu64 (carry + (wu64 (nth x x2 (dflt (.int .u32)))))))))))))
      (.obl (curOk (List.length xs) (0 : Nat) (List.length xs) (List.length xs)) <|
        .obl ((List.length xs) = (List.length xs)) <|
        .ret (.inr (carry, xs)))
noncomputable def nat_Add_L0 (a2 : (List Int)) (b2 : (List Int)) (x : (List Int)) (x1 : Int) (s : (Int × Int × (List Int))) : T ((Int × (List Int))) := T.loop (nat_Add_R0 a2 b2 x x1) s
noncomputable def nat_Add (a : (List Int)) (b : (List Int)) : T (List Int) :=
  T.bind (nat_trim a) fun a1 =>
  T.bind (nat_trim b) fun b1 =>
  .obl (mkOk (w64 ((Nat.cast (List.length (bif (decide ((Nat.cast (List.length a1) : Int) < (Nat.cast (List.length b1) : Int))) then b1 else a1)) : Int) + (1 : Int))) (w64 ((Nat.cast (List.length (bif (decide ((Nat.cast (List.length a1) : Int) < (Nat.cast (List.length b1) : Int))) then b1 else a1)) : Int) + (1 : Int))) (4 : Nat)) <|
  .obl (curOk (Int.toNat (w64 ((Nat.cast (List.length (bif (decide ((Nat.cast (List.length a1) : Int) < (Nat.cast (List.length b1) : Int))) then b1 else a1)) : Int) + (1 : Int)))) (0 : Nat) (Int.toNat (w64 ((Nat.cast (List.length (bif (decide ((Nat.cast (List.length a1) : Int) < (Nat.cast (List.length b1) : Int))) then b1 else a1)) : Int) + (1 : Int)))) (List.length (List.replicate (Int.toNat (w64 ((Nat.cast (List.length (bif (decide ((Nat.cast (List.length a1) : Int) < (Nat.cast (List.length b1) : Int))) then b1 else a1)) : Int) + (1 : Int)))) (0 : Int)))) <|
  .obl ((Int.toNat (w64 ((Nat.cast (List.length (bif (decide ((Nat.cast (List.length a1) : Int) < (Nat.cast (List.length b1) : Int))) then b1 else a1)) : Int) + (1 : Int)))) = (List.length (List.replicate (Int.toNat (w64 ((Nat.cast (List.length (bif (decide ((Nat.cast (List.length a1) : Int) < (Nat.cast (List.length b1) : Int))) then b1 else a1)) : Int) + (1 : Int)))) (0 : Int)))) <|
  T.bind (nat_Add_L0 (bif (decide ((Nat.cast (List.length a1) : Int) < (Nat.cast (List.length b1) : Int))) then b1 else a1) (bif (decide ((Nat.cast (List.length a1) : Int) < (Nat.cast (List.length b1) : Int))) then a1 else b1) (bif (decide ((Nat.cast (List.length a1) : Int) < (Nat.cast (List.length b1) : Int))) then b1 else a1) (Nat.cast (List.length (bif (decide ((Nat.cast (List.length a1) : Int) < (Nat.cast (List.length b1) : Int))) then b1 else a1)) : Int) ((0 : Int), ((0 : Int), (List.replicate (Int.toNat (w64 ((Nat.cast (List.length (bif (decide ((Nat.cast (List.length a1) : Int) < (Nat.cast (List.length b1) : Int))) then b1 else a1)) : Int) + (1 : Int)))) (0 : Int))))) fun (carry1, xs1) =>
  .obl (idxOk (Nat.cast (List.length (bif (decide ((Nat.cast (List.length a1) : Int) < (Nat.cast (List.length b1) : Int))) then b1 else a1)) : Int) (List.length xs1)) <|
  .obl (eOk (List.length xs1) (List.length xs1) ((0 : Nat) + (Int.toNat (Nat.cast (List.length (bif (decide ((Nat.cast (List.length a1) : Int) < (Nat.cast (List.length b1) : Int))) then b1 else a1)) : Int))) (List.length xs1)) <|
  .obl ((List.length xs1) = (List.length xs1)) <|
  T.bind (nat_trim (List.drop (0 : Nat) (List.take ((0 : Nat) + (List.length xs1)) (List.set xs1 ((0 : Nat) + (Int.toNat (Nat.cast (List.length (bif (decide ((Nat.cast (List.length a1) : Int) < (Nat.cast (List.length b1) : Int))) then b1 else a1)) : Int))) (wu32 carry1))))) fun r =>
  .ret r
/-- pantograph/nat.Parse -/
noncomputable def nat_Parse_R0 (s1 : Str) (x1 : Int) : ((List Int) × Int) → T (((List Int) × Int) ⊕ ((List Int)))
  | (a, x2) =>
    .ite (decide (x2 < x1))
      (T.bind (nat_Mul a ([(10 : Int)] : List Int)) fun r1 =>
        .obl (idxOk x2 (List.length s1)) <|
        T.bind (nat_Of (wu64 (wu8 ((byteAt s1 x2) - (48 : Int))))) fun r2 =>
        T.bind (nat_Add r1 r2) fun a1 =>
        .ret (.inl (a1, (w64 (x2 + (1 : Int))))))
      (.ret (.inr a))
noncomputable def nat_Parse_L0 (s1 : Str) (x1 : Int) (s : ((List Int) × Int)) : T ((List Int)) := T.loop (nat_Parse_R0 s1 x1) s
noncomputable def nat_Parse (s : Str) : T ((List Int) × Bool) :=
  T.bind (.ite (strEq s ([] : Str))
        (.ret true)
        (.ite (decide ((400 : Int) < (Nat.cast (List.length s) : Int)))
            (.ret true)
            (T.bind (strings_Trim s ([48, 49, 50, 51, 52, 53, 54, 55, 56, 57] : Str)) fun r =>
              .ret (!(strEq r ([] : Str))))) : T (Bool)) fun x =>
  .ite x
    (.ret (([] : List Int), false))
    (T.bind (nat_Parse_L0 s (Nat.cast (List.length s) : Int) (([] : List Int), (0 : Int))) fun a2 =>
      .ret (a2, true))
/-- pantograph/dec.ten -/
noncomputable def dec_ten_R0 (x : Int) : ((List Int) × Int) → T (((List Int) × Int) ⊕ ((List Int)))
  | (a1, x1) =>
    .ite (decide (x1 < x))
      (T.bind (nat_Of (10 : Int)) fun r =>
        T.bind (nat_Mul a1 r) fun a2 =>
        .ret (.inl (a2, (w64 (x1 + (1 : Int))))))
      (.ret (.inr a1))
noncomputable def dec_ten_L0 (x : Int) (s : ((List Int) × Int)) : T ((List Int)) := T.loop (dec_ten_R0 x) s
noncomputable def dec_ten (n : Int) : T (List Int) :=
  T.bind (nat_Of (1 : Int)) fun a =>
  T.bind (dec_ten_L0 n (a, (0 : Int))) fun a3 =>
  .ret a3
/-- pantograph/dec.Parse -/
noncomputable def dec_Parse (s : Str) : T (Rat × Int) :=
  .ite (decide ((400 : Int) < (Nat.cast (List.length s) : Int)))
    (.ret ((false, (([] : List Int), (([] : List Int), ()))), (3 : Int)))
    (T.bind (strings_CutPrefix s ([45] : Str)) fun (s1, neg) =>
      T.bind (strings_Cut s1 ([46] : Str)) fun (whole, part, ok) =>
      .ite ok
        (T.bind (nat_Parse part) fun (r, is) =>
          .obl (((List.length whole) + (List.length part)) ≤ (4611686018427387904 : Nat)) <|
          T.bind (nat_Parse (cat whole part)) fun (n, both) =>
          .ite ((strEq whole ([] : Str)) || ((!is) || (!both)))
            (.ret ((false, (([] : List Int), (([] : List Int), ()))), (2 : Int)))
            (T.bind (dec_ten (Nat.cast (List.length part) : Int)) fun r1 =>
              T.bind (rat_Of neg n r1) fun r2 =>
              .ret (r2, (0 : Int))))
        (T.bind (strings_Cut s1 ([47] : Str)) fun (num, den, ok1) =>
          T.bind (nat_Parse num) fun (n1, is1) =>
          T.bind (nat_Parse (bif (!ok1) then ([49] : Str) else den)) fun (d, both1) =>
          .ite ((!is1) || ((!both1) || ((Nat.cast (List.length d) : Int) == (0 : Int))))
            (.ret ((false, (([] : List Int), (([] : List Int), ()))), (2 : Int)))
            (T.bind (rat_Of neg n1 d) fun r3 =>
              .ret (r3, (0 : Int)))))
/-- pantograph/expr.isLetter -/
noncomputable def expr_isLetter (c : Int) : T Bool :=
  .ret ((decide ((97 : Int) ≤ c)) && (decide (c ≤ (122 : Int))))
/-- pantograph/expr.isDigit -/
noncomputable def expr_isDigit (c : Int) : T Bool :=
  .ret ((decide ((48 : Int) ≤ c)) && (decide (c ≤ (57 : Int))))
/-- pantograph/expr.isInner -/
noncomputable def expr_isInner (c : Int) : T Bool :=
  T.bind (expr_isLetter c) fun r =>
  .ite r
    (.ret true)
    (T.bind (expr_isDigit c) fun r1 =>
      .ite r1
        (.ret true)
        (.ret (c == (95 : Int))))
/-- pantograph/expr.Name -/
noncomputable def expr_Name_R0 (s1 : Str) (x1 : Int) : Int → T (Int ⊕ (Unit ⊕ Bool))
  | x2 =>
    .ite (decide (x2 < x1))
      (.obl (idxOk x2 (List.length s1)) <|
        T.bind (expr_isInner (byteAt s1 x2)) fun r1 =>
        .ite (!r1)
          (.ret (.inr (.inr false)))
          (.ret (.inl (w64 (x2 + (1 : Int))))))
      (.ret (.inr (.inl ())))
noncomputable def expr_Name_L0 (s1 : Str) (x1 : Int) (s : Int) : T (Unit ⊕ Bool) := T.loop (expr_Name_R0 s1 x1) s
noncomputable def expr_Name (s : Str) : T Bool :=
  T.bind (.ite (strEq s ([] : Str))
        (.ret true)
        (.ite (decide ((24 : Int) < (Nat.cast (List.length s) : Int)))
            (.ret true)
            (.obl (idxOk (0 : Int) (List.length s)) <|
              T.bind (expr_isLetter (byteAt s (0 : Int))) fun r =>
              .ret (!r))) : T (Bool)) fun x =>
  .ite x
    (.ret false)
    (T.bind (expr_Name_L0 s (Nat.cast (List.length s) : Int) (0 : Int)) <|
        Sum.elim (fun _ =>
          .ret true)
        (fun x3 =>
          .ret x3))
/-- pantograph/record.Decode -/
noncomputable def record_Decode_R0 (s1 : Str) : (Str × (List record_Item)) → T ((Str × (List record_Item)) ⊕ ((List record_Item) ⊕ (Int × (List record_Item))))
  | (rest, xs) =>
    .ite (!(strEq rest ([] : Str)))
      (T.bind (strings_Cut rest ([10] : Str)) fun (line, more, r) =>
        T.bind (strings_Cut line ([32] : Str)) fun (name, num, r1) =>
        T.bind (dec_Parse num) fun (r2, e) =>
        T.bind (.ite (e != (0 : Int))
              (.obl (curOk (List.length xs) (0 : Nat) (List.length xs) (List.length xs)) <|
                .obl ((List.length xs) = (List.length xs)) <|
                .ret (true, (xs, r2)))
              (T.bind (expr_Name name) fun r3 =>
                .obl (curOk (List.length xs) (0 : Nat) (List.length xs) (List.length xs)) <|
                .obl ((List.length xs) = (List.length xs)) <|
                .ret ((!r3), (xs, r2))) : T ((Bool × (List record_Item) × Rat))) fun (x, xs1, v) =>
        .ite x
          (.obl ((List.length xs1) = (List.length xs1)) <|
            .ret (.inr (.inr ((2 : Int), xs1))))
          (.obl (appOk (List.length xs1) (List.length xs1) (0 : Nat) (List.length xs1) (List.length xs1) (1 : Nat) (72 : Nat)) <|
            .obl (curOk ((List.length xs1) + (1 : Nat)) (0 : Nat) ((List.length xs1) + (1 : Nat)) (List.length (xs1 ++ ([(name, ((v.1, (v.2.1, (v.2.2.1, ()))), ()))] : List record_Item)))) <|
            .obl (((List.length xs1) + (1 : Nat)) = (List.length (xs1 ++ ([(name, ((v.1, (v.2.1, (v.2.2.1, ()))), ()))] : List record_Item)))) <|
            .ret (.inl (more, (xs1 ++ ([(name, ((v.1, (v.2.1, (v.2.2.1, ()))), ()))] : List record_Item))))))
      (.obl (curOk (List.length xs) (0 : Nat) (List.length xs) (List.length xs)) <|
        .obl ((List.length xs) = (List.length xs)) <|
        .ret (.inr (.inl xs)))
noncomputable def record_Decode_L0 (s1 : Str) (s : (Str × (List record_Item))) : T ((List record_Item) ⊕ (Int × (List record_Item))) := T.loop (record_Decode_R0 s1) s
noncomputable def record_Decode (s : Str) : T ((List record_Item) × Int) :=
  .obl (curOk (0 : Nat) (0 : Nat) (0 : Nat) (0 : Nat)) <|
  .obl ((0 : Nat) = (0 : Nat)) <|
  T.bind (record_Decode_L0 s (s, ([] : List record_Item))) <|
    Sum.elim (fun xs2 =>
      .obl ((List.length xs2) = (List.length xs2)) <|
      T.bind (record_Encode (List.drop (0 : Nat) (List.take ((0 : Nat) + (List.length xs2)) xs2))) fun r4 =>
      .ite (!(strEq r4 s))
        (.ret (([] : List record_Item), (2 : Int)))
        (.obl ((List.length xs2) = (List.length xs2)) <|
          .ret ((List.drop (0 : Nat) (List.take ((0 : Nat) + (List.length xs2)) xs2)), (0 : Int))))
    (fun (x1, xs3) =>
      .ret (([] : List record_Item), x1))
/-- pantograph/pantographlaw21.own -/
noncomputable def law21_own_R0 (l1 : (List record_Item)) : (Int × (List record_Item)) → T ((Int × (List record_Item)) ⊕ ((List record_Item)))
  | (i, xs) =>
    .ite (decide (i < (Nat.cast (List.length l1) : Int)))
      (.obl (idxOk i (List.length l1)) <|
        .obl (appOk (List.length xs) (List.length xs) (0 : Nat) (List.length xs) (List.length xs) (1 : Nat) (72 : Nat)) <|
        .obl (curOk ((List.length xs) + (1 : Nat)) (0 : Nat) ((List.length xs) + (1 : Nat)) (List.length (xs ++ ([(nth l1 i (dflt tyrecord_Item))] : List record_Item)))) <|
        .obl (((List.length xs) + (1 : Nat)) = (List.length (xs ++ ([(nth l1 i (dflt tyrecord_Item))] : List record_Item)))) <|
        .ret (.inl ((w64 (i + (1 : Int))), (xs ++ ([(nth l1 i (dflt tyrecord_Item))] : List record_Item)))))
      (.obl (curOk (List.length xs) (0 : Nat) (List.length xs) (List.length xs)) <|
        .obl ((List.length xs) = (List.length xs)) <|
        .ret (.inr xs))
noncomputable def law21_own_L0 (l1 : (List record_Item)) (s : (Int × (List record_Item))) : T ((List record_Item)) := T.loop (law21_own_R0 l1) s
noncomputable def law21_own (l : (List record_Item)) : T (List record_Item) :=
  .obl (curOk (0 : Nat) (0 : Nat) (0 : Nat) (0 : Nat)) <|
  .obl ((0 : Nat) = (0 : Nat)) <|
  T.bind (law21_own_L0 l ((0 : Int), ([] : List record_Item))) fun xs1 =>
  .obl ((List.length xs1) = (List.length xs1)) <|
  .ret (List.drop (0 : Nat) (List.take ((0 : Nat) + (List.length xs1)) xs1))
/-- pantograph/pantographref1.Trim -/
noncomputable def ref1_Trim_R0 (a1 : (List Int)) : Int → T (Int ⊕ (Int))
  | n =>
    .obl (((decide ((0 : Int) < n)) = true) → (idxOk (w64 (n - (1 : Int))) (List.length a1))) <|
    .ite ((decide ((0 : Int) < n)) && ((nth a1 (w64 (n - (1 : Int))) (dflt (.int .u32))) == (0 : Int)))
      (.ret (.inl (w64 (n - (1 : Int)))))
      (.ret (.inr n))
noncomputable def ref1_Trim_L0 (a1 : (List Int)) (s : Int) : T (Int) := T.loop (ref1_Trim_R0 a1) s
noncomputable def ref1_Trim (a : (List Int)) : T (List Int) :=
  T.bind (ref1_Trim_L0 a (Nat.cast (List.length a) : Int)) fun n1 =>
  .obl (slOk (0 : Int) n1 (List.length a)) <|
  .obl (appOk (0 : Nat) (0 : Nat) (0 : Nat) (0 : Nat) (0 : Nat) (List.length (cutL (e := (.int .u32)) (0 : Int) n1 a)) (4 : Nat)) <|
  .obl (((0 : Nat) + (List.length (cutL (e := (.int .u32)) (0 : Int) n1 a))) = ((0 : Nat) + (List.length (cutL (e := (.int .u32)) (0 : Int) n1 a)))) <|
  .ret (List.drop (0 : Nat) (List.take ((0 : Nat) + ((0 : Nat) + (List.length (cutL (e := (.int .u32)) (0 : Int) n1 a)))) (cutL (e := (.int .u32)) (0 : Int) n1 a)))
/-- pantograph/pantographref1.To -/
noncomputable def ref1_To_R0 (t1 : (List Int)) : (Int × Int) → T ((Int × Int) ⊕ (Int))
  | (n, i) =>
    .ite (decide ((0 : Int) ≤ i))
      (.obl ((0 : Int) ≤ (32 : Int)) <|
        .obl (idxOk i (List.length t1)) <|
        .ret (.inl ((orI .u64 (shlI .u64 n (32 : Int)) (wu64 (nth t1 i (dflt (.int .u32))))), (w64 (i - (1 : Int))))))
      (.ret (.inr n))
noncomputable def ref1_To_L0 (t1 : (List Int)) (s : (Int × Int)) : T (Int) := T.loop (ref1_To_R0 t1) s
noncomputable def ref1_To (a : (List Int)) : T (Int × Bool) :=
  T.bind (ref1_Trim a) fun t =>
  .ite (decide ((2 : Int) < (Nat.cast (List.length t) : Int)))
    (.ret ((0 : Int), false))
    (T.bind (ref1_To_L0 t ((0 : Int), (w64 ((Nat.cast (List.length t) : Int) - (1 : Int))))) fun n1 =>
      .ret (n1, true))
/-- pantograph/pantographref1.Of -/
noncomputable def ref1_Of (n : Int) : T (List Int) :=
  .obl ((0 : Int) ≤ (32 : Int)) <|
  T.bind (ref1_Trim ([(wu32 n), (wu32 (shrI .u64 n (32 : Int)))] : List Int)) fun r =>
  .ret r
/-- pantograph/pantographref1.small -/
noncomputable def ref1_small_R0 (a1 : (List Int)) (by_1 : Int) : (Int × Int × (List Int)) → T ((Int × Int × (List Int)) ⊕ ((Int × (List Int))))
  | (r, i, xs) =>
    .ite (decide ((0 : Int) ≤ i))
      (.obl ((0 : Int) ≤ (32 : Int)) <|
        .obl (idxOk i (List.length a1)) <|
        .obl (by_1 ≠ (0 : Int)) <|
        .obl (idxOk i (List.length xs)) <|
        .obl (eOk (List.length xs) (List.length xs) ((0 : Nat) + (Int.toNat i)) (List.length xs)) <|
        .obl (by_1 ≠ (0 : Int)) <|
        .obl (curOk (List.length xs) (0 : Nat) (List.length xs) (List.length (List.set xs ((0 : Nat) + (Int.toNat i)) (wu32 (wu64 (Int.tdiv (orI .u64 (shlI .u64 r (32 : Int)) (wu64 (nth a1 i (dflt (.int .u32))))) by_1)))))) <|
        .obl ((List.length xs) = (List.length (List.set xs ((0 : Nat) + (Int.toNat i)) (wu32 (wu64 (Int.tdiv (orI .u64 (shlI .u64 r (32 : Int)) (wu64 (nth a1 i (dflt (.int .u32))))) by_1)))))) <|
        .ret (.inl ((Int.tmod (orI .u64 (shlI .u64 r (32 : Int)) (wu64 (nth a1 i (dflt (.int .u32))))) by_1), ((w64 (i - (1 : Int))), (List.set xs ((0 : Nat) + (Int.toNat i)) (wu32 (wu64 (Int.tdiv (orI .u64 (shlI .u64 r (32 : Int)) (wu64 (nth a1 i (dflt (.int .u32))))) by_1))))))))
      (.obl (curOk (List.length xs) (0 : Nat) (List.length xs) (List.length xs)) <|
        .obl ((List.length xs) = (List.length xs)) <|
        .ret (.inr (r, xs)))
noncomputable def ref1_small_L0 (a1 : (List Int)) (by_1 : Int) (s : (Int × Int × (List Int))) : T ((Int × (List Int))) := T.loop (ref1_small_R0 a1 by_1) s
noncomputable def ref1_small (a : (List Int)) (by_ : Int) : T ((List Int) × Int) :=
  .obl (mkOk (Nat.cast (List.length a) : Int) (Nat.cast (List.length a) : Int) (4 : Nat)) <|
  .obl (curOk (Int.toNat (Nat.cast (List.length a) : Int)) (0 : Nat) (Int.toNat (Nat.cast (List.length a) : Int)) (List.length (List.replicate (Int.toNat (Nat.cast (List.length a) : Int)) (0 : Int)))) <|
  .obl ((Int.toNat (Nat.cast (List.length a) : Int)) = (List.length (List.replicate (Int.toNat (Nat.cast (List.length a) : Int)) (0 : Int)))) <|
  T.bind (ref1_small_L0 a by_ ((0 : Int), ((w64 ((Nat.cast (List.length a) : Int) - (1 : Int))), (List.replicate (Int.toNat (Nat.cast (List.length a) : Int)) (0 : Int))))) fun (r1, xs1) =>
  .obl ((List.length xs1) = (List.length xs1)) <|
  T.bind (ref1_Trim (List.drop (0 : Nat) (List.take ((0 : Nat) + (List.length xs1)) xs1))) fun r2 =>
  .ret (r2, r1)
/-- pantograph/pantographref1.at -/
noncomputable def ref1_at (a : (List Int)) (i : Int) : T Int :=
  .ite (decide (i < (Nat.cast (List.length a) : Int)))
    (.obl (idxOk i (List.length a)) <|
      .ret (wu64 (nth a i (dflt (.int .u32)))))
    (.ret (0 : Int))
/-- pantograph/pantographref1.Shift -/
noncomputable def ref1_Shift_R0 (t1 : (List Int)) (by_ : Int) : (Int × (List Int)) → T ((Int × (List Int)) ⊕ ((List Int)))
  | (i, xs) =>
    .ite (decide (i < (Nat.cast (List.length t1) : Int)))
      (T.bind (ref1_at t1 i) fun r =>
        T.bind (ref1_at t1 (w64 (i + (1 : Int)))) fun r1 =>
        .obl ((0 : Int) ≤ (32 : Int)) <|
        .obl ((0 : Int) ≤ by_) <|
        .obl (appOk (List.length xs) (List.length xs) (0 : Nat) (List.length xs) (List.length xs) (1 : Nat) (4 : Nat)) <|
        .obl (curOk ((List.length xs) + (1 : Nat)) (0 : Nat) ((List.length xs) + (1 : Nat)) (List.length (xs ++ ([(wu32 (shrI .u64 (orI .u64 r (shlI .u64 r1 (32 : Int))) by_))] : List Int)))) <|
        .obl (((List.length xs) + (1 : Nat)) = (List.length (xs ++ ([(wu32 (shrI .u64 (orI .u64 r (shlI .u64 r1 (32 : Int))) by_))] : List Int)))) <|
        .ret (.inl ((w64 (i + (1 : Int))), (xs ++ ([(wu32 (shrI .u64 (orI .u64 r (shlI .u64 r1 (32 : Int))) by_))] : List Int)))))
      (.obl (curOk (List.length xs) (0 : Nat) (List.length xs) (List.length xs)) <|
        .obl ((List.length xs) = (List.length xs)) <|
        .ret (.inr xs))
noncomputable def ref1_Shift_L0 (t1 : (List Int)) (by_ : Int) (s : (Int × (List Int))) : T ((List Int)) := T.loop (ref1_Shift_R0 t1 by_) s
noncomputable def ref1_Shift_R1 (t2 : (List Int)) (by_1 : Int) : (Int × Int × (List Int)) → T ((Int × Int × (List Int)) ⊕ ((List Int)))
  | (low, i1, xs2) =>
    .ite (decide (i1 < (w64 ((Nat.cast (List.length t2) : Int) + (1 : Int)))))
      (T.bind (ref1_at t2 i1) fun r3 =>
        .obl ((0 : Int) ≤ by_1) <|
        .obl (appOk (List.length xs2) (List.length xs2) (0 : Nat) (List.length xs2) (List.length xs2) (1 : Nat) (4 : Nat)) <|
        .obl ((0 : Int) ≤ (32 : Int)) <|
        .obl (curOk ((List.length xs2) + (1 : Nat)) (0 : Nat) ((List.length xs2) + (1 : Nat)) (List.length (xs2 ++ ([(wu32 (orI .u64 (shlI .u64 r3 by_1) low))] : List Int)))) <|
        .obl (((List.length xs2) + (1 : Nat)) = (List.length (xs2 ++ ([(wu32 (orI .u64 (shlI .u64 r3 by_1) low))] : List Int)))) <|
        .ret (.inl ((shrI .u64 (shlI .u64 r3 by_1) (32 : Int)), ((w64 (i1 + (1 : Int))), (xs2 ++ ([(wu32 (orI .u64 (shlI .u64 r3 by_1) low))] : List Int))))))
      (.obl (curOk (List.length xs2) (0 : Nat) (List.length xs2) (List.length xs2)) <|
        .obl ((List.length xs2) = (List.length xs2)) <|
        .ret (.inr xs2))
noncomputable def ref1_Shift_L1 (t2 : (List Int)) (by_1 : Int) (s : (Int × Int × (List Int))) : T ((List Int)) := T.loop (ref1_Shift_R1 t2 by_1) s
noncomputable def ref1_Shift (a : (List Int)) (n : Int) : T (List Int) :=
  T.bind (ref1_Trim a) fun t =>
  .ite (decide ((minI (maxI n (-4096 : Int)) (4096 : Int)) < (0 : Int)))
    (.obl ((32 : Int) ≠ (0 : Int)) <|
      .ite (decide ((Nat.cast (List.length t) : Int) ≤ (w64 (Int.tdiv (w64 ((0 : Int) - (minI (maxI n (-4096 : Int)) (4096 : Int)))) (32 : Int)))))
        (.ret ([] : List Int))
        (.obl (slOk (w64 (Int.tdiv (w64 ((0 : Int) - (minI (maxI n (-4096 : Int)) (4096 : Int)))) (32 : Int))) (Nat.cast (List.length t) : Int) (List.length t)) <|
          .obl ((32 : Int) ≠ (0 : Int)) <|
          .obl (curOk (0 : Nat) (0 : Nat) (0 : Nat) (0 : Nat)) <|
          .obl ((0 : Nat) = (0 : Nat)) <|
          T.bind (ref1_Shift_L0 (cutL (e := (.int .u32)) (w64 (Int.tdiv (w64 ((0 : Int) - (minI (maxI n (-4096 : Int)) (4096 : Int)))) (32 : Int))) (Nat.cast (List.length t) : Int) t) (wu64 (Int.tmod (w64 ((0 : Int) - (minI (maxI n (-4096 : Int)) (4096 : Int)))) (32 : Int))) ((0 : Int), ([] : List Int))) fun xs1 =>
          .obl ((List.length xs1) = (List.length xs1)) <|
          T.bind (ref1_Trim (List.drop (0 : Nat) (List.take ((0 : Nat) + (List.length xs1)) xs1))) fun r2 =>
          .ret r2))
    (.obl ((32 : Int) ≠ (0 : Int)) <|
      .obl (mkOk (w64 (Int.tdiv (minI (maxI n (-4096 : Int)) (4096 : Int)) (32 : Int))) (w64 (Int.tdiv (minI (maxI n (-4096 : Int)) (4096 : Int)) (32 : Int))) (4 : Nat)) <|
      .obl ((32 : Int) ≠ (0 : Int)) <|
      .obl (curOk (Int.toNat (w64 (Int.tdiv (minI (maxI n (-4096 : Int)) (4096 : Int)) (32 : Int)))) (0 : Nat) (Int.toNat (w64 (Int.tdiv (minI (maxI n (-4096 : Int)) (4096 : Int)) (32 : Int)))) (List.length (List.replicate (Int.toNat (w64 (Int.tdiv (minI (maxI n (-4096 : Int)) (4096 : Int)) (32 : Int)))) (0 : Int)))) <|
      .obl ((Int.toNat (w64 (Int.tdiv (minI (maxI n (-4096 : Int)) (4096 : Int)) (32 : Int)))) = (List.length (List.replicate (Int.toNat (w64 (Int.tdiv (minI (maxI n (-4096 : Int)) (4096 : Int)) (32 : Int)))) (0 : Int)))) <|
      T.bind (ref1_Shift_L1 t (wu64 (Int.tmod (minI (maxI n (-4096 : Int)) (4096 : Int)) (32 : Int))) ((0 : Int), ((0 : Int), (List.replicate (Int.toNat (w64 (Int.tdiv (minI (maxI n (-4096 : Int)) (4096 : Int)) (32 : Int)))) (0 : Int))))) fun xs3 =>
      .obl ((List.length xs3) = (List.length xs3)) <|
      T.bind (ref1_Trim (List.drop (0 : Nat) (List.take ((0 : Nat) + (List.length xs3)) xs3))) fun r4 =>
      .ret r4)
/-- pantograph/pantographref1.Add -/
noncomputable def ref1_Add_R0 (a1 : (List Int)) (b1 : (List Int)) : (Int × Int × (List Int)) → T ((Int × Int × (List Int)) ⊕ ((List Int)))
  | (c, i, xs) =>
    .ite (decide (i < (w64 ((maxI (Nat.cast (List.length a1) : Int) (Nat.cast (List.length b1) : Int)) + (1 : Int)))))
      (T.bind (ref1_at a1 i) fun r =>
        T.bind (ref1_at b1 i) fun r1 =>
        .obl (appOk (List.length xs) (List.length xs) (0 : Nat) (List.length xs) (List.length xs) (1 : Nat) (4 : Nat)) <|
        .obl ((0 : Int) ≤ (32 : Int)) <|
        .obl (curOk ((List.length xs) + (1 : Nat)) (0 : Nat) ((List.length xs) + (1 : Nat)) (List.length (xs ++ ([(wu32 (wu64 ((wu64 (c + r)) + r1)))] : List Int)))) <|
        .obl (((List.length xs) + (1 : Nat)) = (List.length (xs ++ ([(wu32 (wu64 ((wu64 (c + r)) + r1)))] : List Int)))) <|
        .ret (.inl ((shrI .u64 (wu64 ((wu64 (c + r)) + r1)) (32 : Int)), ((w64 (i + (1 : Int))), (xs ++ ([(wu32 (wu64 ((wu64 (c + r)) + r1)))] : List Int))))))
      (.obl (curOk (List.length xs) (0 : Nat) (List.length xs) (List.length xs)) <|
        .obl ((List.length xs) = (List.length xs)) <|
        .ret (.inr xs))
noncomputable def ref1_Add_L0 (a1 : (List Int)) (b1 : (List Int)) (s : (Int × Int × (List Int))) : T ((List Int)) := T.loop (ref1_Add_R0 a1 b1) s
noncomputable def ref1_Add (a : (List Int)) (b : (List Int)) : T (List Int) :=
  .obl (curOk (0 : Nat) (0 : Nat) (0 : Nat) (0 : Nat)) <|
  .obl ((0 : Nat) = (0 : Nat)) <|
  T.bind (ref1_Add_L0 a b ((0 : Int), ((0 : Int), ([] : List Int)))) fun xs1 =>
  .obl ((List.length xs1) = (List.length xs1)) <|
  T.bind (ref1_Trim (List.drop (0 : Nat) (List.take ((0 : Nat) + (List.length xs1)) xs1))) fun r2 =>
  .ret r2
/-- pantograph/pantographref1.Cmp -/
noncomputable def ref1_Cmp_R0 (x1 : (List Int)) (y1 : (List Int)) : Int → T (Int ⊕ (Unit ⊕ Int))
  | i =>
    .ite (decide ((0 : Int) ≤ i))
      (.obl (idxOk i (List.length x1)) <|
        .obl (idxOk i (List.length y1)) <|
        .ite (decide ((nth x1 i (dflt (.int .u32))) < (nth y1 i (dflt (.int .u32)))))
          (.ret (.inr (.inr (-1 : Int))))
          (.obl (idxOk i (List.length x1)) <|
            .obl (idxOk i (List.length y1)) <|
            .ite (decide ((nth y1 i (dflt (.int .u32))) < (nth x1 i (dflt (.int .u32)))))
              (.ret (.inr (.inr (1 : Int))))
              (.ret (.inl (w64 (i - (1 : Int)))))))
      (.ret (.inr (.inl ())))
noncomputable def ref1_Cmp_L0 (x1 : (List Int)) (y1 : (List Int)) (s : Int) : T (Unit ⊕ Int) := T.loop (ref1_Cmp_R0 x1 y1) s
noncomputable def ref1_Cmp (a : (List Int)) (b : (List Int)) : T Int :=
  T.bind (ref1_Trim a) fun x =>
  T.bind (ref1_Trim b) fun y =>
  .ite ((Nat.cast (List.length x) : Int) != (Nat.cast (List.length y) : Int))
    (.ite (decide ((Nat.cast (List.length x) : Int) < (Nat.cast (List.length y) : Int)))
        (.ret (-1 : Int))
        (.ret (1 : Int)))
    (T.bind (ref1_Cmp_L0 x y (w64 ((Nat.cast (List.length x) : Int) - (1 : Int)))) <|
        Sum.elim (fun _ =>
          .ret (0 : Int))
        (fun x2 =>
          .ret x2))
/-- pantograph/pantographref1.Sub -/
noncomputable def ref1_Sub_R0 (a1 : (List Int)) (b1 : (List Int)) : (Int × Int × (List Int)) → T ((Int × Int × (List Int)) ⊕ ((List Int)))
  | (c, i, xs) =>
    .ite (decide (i < (Nat.cast (List.length a1) : Int)))
      (T.bind (ref1_at a1 i) fun x =>
        T.bind (ref1_at b1 i) fun r1 =>
        .obl (appOk (List.length xs) (List.length xs) (0 : Nat) (List.length xs) (List.length xs) (1 : Nat) (4 : Nat)) <|
        .obl (curOk ((List.length xs) + (1 : Nat)) (0 : Nat) ((List.length xs) + (1 : Nat)) (List.length (xs ++ ([(wu32 (wu64 ((bif (decide (x < (wu64 (r1 + c)))) then (wu64 (x + (4294967296 : Int))) else x) - (wu64 (r1 + c)))))] : List Int)))) <|
        .obl (((List.length xs) + (1 : Nat)) = (List.length (xs ++ ([(wu32 (wu64 ((bif (decide (x < (wu64 (r1 + c)))) then (wu64 (x + (4294967296 : Int))) else x) - (wu64 (r1 + c)))))] : List Int)))) <|
        .ret (.inl ((bif (decide (x < (wu64 (r1 + c)))) then (1 : Int) else (0 : Int)), ((w64 (i + (1 : Int))), (xs ++ ([(wu32 (wu64 ((bif (decide (x < (wu64 (r1 + c)))) then (wu64 (x + (4294967296 : Int))) else x) - (wu64 (r1 + c)))))] : List Int))))))
      (.obl (curOk (List.length xs) (0 : Nat) (List.length xs) (List.length xs)) <|
        .obl ((List.length xs) = (List.length xs)) <|
        .ret (.inr xs))
noncomputable def ref1_Sub_L0 (a1 : (List Int)) (b1 : (List Int)) (s : (Int × Int × (List Int))) : T ((List Int)) := T.loop (ref1_Sub_R0 a1 b1) s
noncomputable def ref1_Sub (a : (List Int)) (b : (List Int)) : T ((List Int) × Bool) :=
  T.bind (ref1_Cmp a b) fun r =>
  .ite (decide (r < (0 : Int)))
    (.ret (([] : List Int), false))
    (.obl (curOk (0 : Nat) (0 : Nat) (0 : Nat) (0 : Nat)) <|
      .obl ((0 : Nat) = (0 : Nat)) <|
      T.bind (ref1_Sub_L0 a b ((0 : Int), ((0 : Int), ([] : List Int)))) fun xs1 =>
      .obl ((List.length xs1) = (List.length xs1)) <|
      T.bind (ref1_Trim (List.drop (0 : Nat) (List.take ((0 : Nat) + (List.length xs1)) xs1))) fun r2 =>
      .ret (r2, true))
/-- pantograph/pantographref1.DivMod -/
noncomputable def ref1_DivMod_R0 (a1 : (List Int)) (b1 : (List Int)) : ((List Int) × Int × (List Int)) → T (((List Int) × Int × (List Int)) ⊕ (((List Int) × (List Int))))
  | (r5, i, xs) =>
    .ite (decide ((0 : Int) ≤ i))
      (T.bind (ref1_Shift r5 (1 : Int)) fun r6 =>
        T.bind (.obl ((32 : Int) ≠ (0 : Int)) <|
            .obl (idxOk (w64 (Int.tdiv i (32 : Int))) (List.length a1)) <|
            .obl ((32 : Int) ≠ (0 : Int)) <|
            .obl ((0 : Int) ≤ (wu64 (Int.tmod i (32 : Int)))) <|
            .ite ((andI .u32 (shrI .u32 (nth a1 (w64 (Int.tdiv i (32 : Int))) (dflt (.int .u32))) (wu64 (Int.tmod i (32 : Int)))) (1 : Int)) == (1 : Int))
              (T.bind (ref1_Add r6 ([(1 : Int)] : List Int)) fun r7 =>
                .obl (curOk (List.length xs) (0 : Nat) (List.length xs) (List.length xs)) <|
                .obl ((List.length xs) = (List.length xs)) <|
                .ret (r7, xs))
              (.obl (curOk (List.length xs) (0 : Nat) (List.length xs) (List.length xs)) <|
                .obl ((List.length xs) = (List.length xs)) <|
                .ret (r6, xs)) : T (((List Int) × (List Int)))) fun (r8, xs1) =>
        T.bind (ref1_Cmp r8 b1) fun r9 =>
        .ite (decide ((0 : Int) ≤ r9))
          (T.bind (ref1_Sub r8 b1) fun (r10, r11) =>
            .obl ((32 : Int) ≠ (0 : Int)) <|
            .obl ((32 : Int) ≠ (0 : Int)) <|
            .obl (idxOk (w64 (Int.tdiv i (32 : Int))) (List.length xs1)) <|
            .obl (eOk (List.length xs1) (List.length xs1) ((0 : Nat) + (Int.toNat (w64 (Int.tdiv i (32 : Int))))) (List.length xs1)) <|
            .obl ((32 : Int) ≠ (0 : Int)) <|
            .obl ((0 : Int) ≤ (wu64 (Int.tmod i (32 : Int)))) <|
            .obl (idxOk (w64 (Int.tdiv i (32 : Int))) (List.length xs1)) <|
            .obl (eOk (List.length xs1) (List.length xs1) ((0 : Nat) + (Int.toNat (w64 (Int.tdiv i (32 : Int))))) (List.length xs1)) <|
            .obl (curOk (List.length xs1) (0 : Nat) (List.length xs1) (List.length (List.set xs1 ((0 : Nat) + (Int.toNat (w64 (Int.tdiv i (32 : Int))))) (orI .u32 (nthN xs1 ((0 : Nat) + (Int.toNat (w64 (Int.tdiv i (32 : Int))))) (dflt (.int .u32))) (shlI .u32 (1 : Int) (wu64 (Int.tmod i (32 : Int)))))))) <|
            .obl ((List.length xs1) = (List.length (List.set xs1 ((0 : Nat) + (Int.toNat (w64 (Int.tdiv i (32 : Int))))) (orI .u32 (nthN xs1 ((0 : Nat) + (Int.toNat (w64 (Int.tdiv i (32 : Int))))) (dflt (.int .u32))) (shlI .u32 (1 : Int) (wu64 (Int.tmod i (32 : Int)))))))) <|
            .ret (.inl (r10, ((w64 (i - (1 : Int))), (List.set xs1 ((0 : Nat) + (Int.toNat (w64 (Int.tdiv i (32 : Int))))) (orI .u32 (nthN xs1 ((0 : Nat) + (Int.toNat (w64 (Int.tdiv i (32 : Int))))) (dflt (.int .u32))) (shlI .u32 (1 : Int) (wu64 (Int.tmod i (32 : Int))))))))))
          (.obl (curOk (List.length xs1) (0 : Nat) (List.length xs1) (List.length xs1)) <|
            .obl ((List.length xs1) = (List.length xs1)) <|
            .ret (.inl (r8, ((w64 (i - (1 : Int))), xs1)))))
      (.obl (curOk (List.length xs) (0 : Nat) (List.length xs) (List.length xs)) <|
        .obl ((List.length xs) = (List.length xs)) <|
        .ret (.inr (r5, xs)))
noncomputable def ref1_DivMod_L0 (a1 : (List Int)) (b1 : (List Int)) (s : ((List Int) × Int × (List Int))) : T (((List Int) × (List Int))) := T.loop (ref1_DivMod_R0 a1 b1) s
noncomputable def ref1_DivMod (a : (List Int)) (b : (List Int)) : T ((List Int) × (List Int) × Bool) :=
  T.bind (ref1_Trim b) fun r =>
  .ite ((Nat.cast (List.length r) : Int) == (0 : Int))
    (.ret (([] : List Int), (([] : List Int), false)))
    (T.bind (ref1_To a) fun (x, one_) =>
      T.bind (ref1_To b) fun (y, two_) =>
      .ite (one_ && two_)
        (.obl (y ≠ (0 : Int)) <|
          T.bind (ref1_Of (wu64 (Int.tdiv x y))) fun r1 =>
          .obl (y ≠ (0 : Int)) <|
          T.bind (ref1_Of (Int.tmod x y)) fun r2 =>
          .ret (r1, (r2, true)))
        (.ite (two_ && (decide (y < (4294967296 : Int))))
            (T.bind (ref1_small a y) fun (q, r3) =>
              T.bind (ref1_Of r3) fun r4 =>
              .ret (q, (r4, true)))
            (.obl (mkOk (Nat.cast (List.length a) : Int) (Nat.cast (List.length a) : Int) (4 : Nat)) <|
              .obl (curOk (Int.toNat (Nat.cast (List.length a) : Int)) (0 : Nat) (Int.toNat (Nat.cast (List.length a) : Int)) (List.length (List.replicate (Int.toNat (Nat.cast (List.length a) : Int)) (0 : Int)))) <|
              .obl ((Int.toNat (Nat.cast (List.length a) : Int)) = (List.length (List.replicate (Int.toNat (Nat.cast (List.length a) : Int)) (0 : Int)))) <|
              T.bind (ref1_DivMod_L0 a b (([] : List Int), ((w64 ((w64 ((32 : Int) * (Nat.cast (List.length a) : Int))) - (1 : Int))), (List.replicate (Int.toNat (Nat.cast (List.length a) : Int)) (0 : Int))))) fun (r12, xs2) =>
              .obl ((List.length xs2) = (List.length xs2)) <|
              T.bind (ref1_Trim (List.drop (0 : Nat) (List.take ((0 : Nat) + (List.length xs2)) xs2))) fun r13 =>
              T.bind (ref1_Trim r12) fun r14 =>
              .ret (r13, (r14, true)))))
/-- pantograph/pantographref1.Gcd -/
noncomputable def ref1_Gcd_R0  : ((List Int) × (List Int)) → T (((List Int) × (List Int)) ⊕ ((List Int)))
  | (x1, y1) =>
    .ite (decide ((0 : Int) < (Nat.cast (List.length y1) : Int)))
      (T.bind (ref1_DivMod x1 y1) fun (r, r1, r2) =>
        .ret (.inl (y1, r1)))
      (.ret (.inr x1))
noncomputable def ref1_Gcd_L0  (s : ((List Int) × (List Int))) : T ((List Int)) := T.loop (ref1_Gcd_R0 ) s
noncomputable def ref1_Gcd (a : (List Int)) (b : (List Int)) : T (List Int) :=
  T.bind (ref1_Trim a) fun x =>
  T.bind (ref1_Trim b) fun y =>
  T.bind (ref1_Gcd_L0  (x, y)) fun x2 =>
  .ret x2
/-- pantograph/pantographref2.Norm -/
noncomputable def ref2_Norm (a : Rat) : T Rat :=
  T.bind (ref1_Trim a.2.1) fun n =>
  T.bind (ref1_Trim a.2.2.1) fun d =>
  .ite (((Nat.cast (List.length d) : Int) == (0 : Int)) || ((Nat.cast (List.length n) : Int) == (0 : Int)))
    (.ret (false, (([] : List Int), (([(1 : Int)] : List Int), ()))))
    (T.bind (ref1_Gcd n d) fun g =>
      T.bind (ref1_DivMod n g) fun (n1, r, r1) =>
      T.bind (ref1_DivMod d g) fun (d1, r2, r3) =>
      .ret (a.1, (n1, (d1, ()))))
/-- pantograph/pantographref2.limbs -/
noncomputable def ref2_limbs_R0 (a1 : (List Int)) (b1 : (List Int)) : Int → T (Int ⊕ (Unit ⊕ Bool))
  | i =>
    .ite (decide (i < (Nat.cast (List.length a1) : Int)))
      (.obl (idxOk i (List.length a1)) <|
        .obl (idxOk i (List.length b1)) <|
        .ite ((nth a1 i (dflt (.int .u32))) != (nth b1 i (dflt (.int .u32))))
          (.ret (.inr (.inr false)))
          (.ret (.inl (w64 (i + (1 : Int))))))
      (.ret (.inr (.inl ())))
noncomputable def ref2_limbs_L0 (a1 : (List Int)) (b1 : (List Int)) (s : Int) : T (Unit ⊕ Bool) := T.loop (ref2_limbs_R0 a1 b1) s
noncomputable def ref2_limbs (a : (List Int)) (b : (List Int)) : T Bool :=
  .ite ((Nat.cast (List.length a) : Int) != (Nat.cast (List.length b) : Int))
    (.ret false)
    (T.bind (ref2_limbs_L0 a b (0 : Int)) <|
        Sum.elim (fun _ =>
          .ret true)
        (fun x =>
          .ret x))
/-- pantograph/pantographref2.Same -/
noncomputable def ref2_Same (a : Rat) (b : Rat) : T Bool :=
  T.bind (ref2_Norm a) fun r =>
  T.bind (ref2_Norm b) fun r1 =>
  .ite (r.1 == r1.1)
    (T.bind (ref2_limbs r.2.1 r1.2.1) fun r2 =>
      .ite r2
        (T.bind (ref2_limbs r.2.2.1 r1.2.2.1) fun r3 =>
          .ret r3)
        (.ret false))
    (.ret false)
/-- pantograph/pantographlaw21.items -/
noncomputable def law21_items_R0 (a1 : (List record_Item)) (b1 : (List record_Item)) : Int → T (Int ⊕ (Unit ⊕ Bool))
  | i =>
    .ite (decide (i < (Nat.cast (List.length a1) : Int)))
      (T.bind (.obl (idxOk i (List.length a1)) <|
            .obl (idxOk i (List.length b1)) <|
            .ite (!(strEq (nth a1 i (dflt tyrecord_Item)).1 (nth b1 i (dflt tyrecord_Item)).1))
              (.ret true)
              (.obl (idxOk i (List.length a1)) <|
                .obl (idxOk i (List.length b1)) <|
                T.bind (ref2_Same (nth a1 i (dflt tyrecord_Item)).2.1 (nth b1 i (dflt tyrecord_Item)).2.1) fun r =>
                .ret (!r)) : T (Bool)) fun x =>
        .ite x
          (.ret (.inr (.inr false)))
          (.ret (.inl (w64 (i + (1 : Int))))))
      (.ret (.inr (.inl ())))
noncomputable def law21_items_L0 (a1 : (List record_Item)) (b1 : (List record_Item)) (s : Int) : T (Unit ⊕ Bool) := T.loop (law21_items_R0 a1 b1) s
noncomputable def law21_items (a : (List record_Item)) (b : (List record_Item)) : T Bool :=
  .ite ((Nat.cast (List.length a) : Int) != (Nat.cast (List.length b) : Int))
    (.ret false)
    (T.bind (law21_items_L0 a b (0 : Int)) <|
        Sum.elim (fun _ =>
          .ret true)
        (fun x1 =>
          .ret x1))
/-- pantograph/pantographlaw21.RecordBack -/
noncomputable def law21_RecordBack_R0 (l1 : (List record_Item)) : Int → T (Int ⊕ (Unit ⊕ Bool))
  | i =>
    .ite (decide (i < (Nat.cast (List.length l1) : Int)))
      (.obl (idxOk i (List.length l1)) <|
        T.bind (ref5_Name (nth l1 i (dflt tyrecord_Item)).1) fun r1 =>
        .ite (!r1)
          (T.bind (law21_known) fun r2 =>
            .ret (.inr (.inr r2)))
          (.ret (.inl (w64 (i + (1 : Int))))))
      (.ret (.inr (.inl ())))
noncomputable def law21_RecordBack_L0 (l1 : (List record_Item)) (s : Int) : T (Unit ⊕ Bool) := T.loop (law21_RecordBack_R0 l1) s
noncomputable def law21_RecordBack (l : (List record_Item)) : T Bool :=
  T.bind (law21_long l) fun r =>
  .ite r
    (.ret true)
    (T.bind (law21_RecordBack_L0 l (0 : Int)) <|
        Sum.elim (fun _ =>
          T.bind (record_Encode l) fun r3 =>
          T.bind (record_Decode r3) fun (m, e) =>
          .ite (e == (0 : Int))
            (T.bind (law21_own l) fun r4 =>
              T.bind (law21_items m r4) fun r5 =>
              .ite r5
                (T.bind (law21_known) fun r6 =>
                  .ret r6)
                (.ret false))
            (.ret false))
        (fun x =>
          .ret x))
end Go.AM.Lf
