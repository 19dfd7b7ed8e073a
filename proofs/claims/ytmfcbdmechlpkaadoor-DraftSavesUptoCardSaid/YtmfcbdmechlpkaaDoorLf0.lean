/-
  The program's functions as trees in plain Lean, part 0: printed by a program of ours.
-/
import Derived.Test.YtmfcbdmechlpkaaDoorAmA
set_option linter.unusedVariables false
namespace Go.AM.Lf
abbrev tyruntime_boundsError : Ty := (.cons (.int .i64) (.cons (.int .i64) (.cons .bool (.cons (.int .u8) .nil))))
abbrev runtime_boundsError := den tyruntime_boundsError
abbrev tyruntime_errorAddressString : Ty := (.cons .str (.cons (.int .u64) .nil))
abbrev runtime_errorAddressString := den tyruntime_errorAddressString
abbrev tyRat : Ty := (.cons .bool (.cons (.sl (.int .u32)) (.cons (.sl (.int .u32)) .nil)))
abbrev Rat := den tyRat
abbrev tydoc_Pin : Ty := (.cons .bool (.cons .bool (.cons tyRat .nil)))
abbrev doc_Pin := den tydoc_Pin
abbrev tydoc_Doc : Ty := (.cons (.sl tyRat) (.cons (.sl .bool) (.cons (.sl tyRat) (.cons (.sl (.int .i64)) (.cons (.sl tydoc_Pin) (.cons (.sl .bool) .nil))))))
abbrev doc_Doc := den tydoc_Doc
abbrev tyhist_Hist : Ty := (.cons (.sl .str) (.cons (.sl .str) .nil))
abbrev hist_Hist := den tyhist_Hist
abbrev tydraft_Draft : Ty := (.cons .str (.cons tyhist_Hist (.cons (.int .i64) (.cons .bool .nil))))
abbrev draft_Draft := den tydraft_Draft
abbrev tyrecord_Item : Ty := (.cons .str (.cons tyRat .nil))
abbrev record_Item := den tyrecord_Item
abbrev tyunicode_utf8_acceptRange : Ty := (.cons (.int .u8) (.cons (.int .u8) .nil))
abbrev unicode_utf8_acceptRange := den tyunicode_utf8_acceptRange
abbrev tyerrors_errorString : Ty := (.cons .str .nil)
abbrev errors_errorString := den tyerrors_errorString
/-- pantograph/pantographlaw20.long -/
noncomputable def law20_long_R0 (d1 : draft_Draft) : (Int × Int) → T ((Int × Int) ⊕ (Int))
  | (n, i) =>
    .ite (decide (i < (Nat.cast (List.length d1.2.1.1) : Int)))
      (.obl (idxOk i (List.length d1.2.1.1)) <|
        .ret (.inl ((w64 ((w64 (n + (1 : Int))) + (Nat.cast (List.length (nth d1.2.1.1 i (dflt .str))) : Int))), (w64 (i + (1 : Int))))))
      (.ret (.inr n))
noncomputable def law20_long_L0 (d1 : draft_Draft) (s : (Int × Int)) : T (Int) := T.loop (law20_long_R0 d1) s
noncomputable def law20_long_R1 (d2 : draft_Draft) : (Int × Int) → T ((Int × Int) ⊕ (Int))
  | (n2, i1) =>
    .ite (decide (i1 < (Nat.cast (List.length d2.2.1.2.1) : Int)))
      (.obl (idxOk i1 (List.length d2.2.1.2.1)) <|
        .ret (.inl ((w64 ((w64 (n2 + (1 : Int))) + (Nat.cast (List.length (nth d2.2.1.2.1 i1 (dflt .str))) : Int))), (w64 (i1 + (1 : Int))))))
      (.ret (.inr n2))
noncomputable def law20_long_L1 (d2 : draft_Draft) (s : (Int × Int)) : T (Int) := T.loop (law20_long_R1 d2) s
noncomputable def law20_long (d : draft_Draft) : T Bool :=
  T.bind (law20_long_L0 d ((Nat.cast (List.length d.1) : Int), (0 : Int))) fun n1 =>
  T.bind (law20_long_L1 d (n1, (0 : Int))) fun n3 =>
  .ret (decide ((3000 : Int) < n3))
/-- strconv.Itoa -/
noncomputable def strconv_Itoa (n : Int) : T Str :=
  .obl ((-9223372036854775808 : Int) ≤ n ∧ n ≤ (9223372036854775807 : Int)) <|
  .ret (itoaS n)
/-- pantograph/draft.long -/
noncomputable def draft_long (s : Str) : T Str :=
  T.bind (strconv_Itoa (Nat.cast (List.length s) : Int)) fun r =>
  .obl (((List.length r) + (List.length ([10] : Str))) ≤ (4611686018427387904 : Nat)) <|
  .obl (((List.length (cat r ([10] : Str))) + (List.length s)) ≤ (4611686018427387904 : Nat)) <|
  .ret (cat (cat r ([10] : Str)) s)
/-- pantograph/draft.all -/
noncomputable def draft_all_R0 (x : (List Str)) (x1 : Int) : (Str × Int) → T ((Str × Int) ⊕ (Str))
  | (s, x2) =>
    .ite (decide (x2 < x1))
      (.obl (idxOk x2 (List.length x)) <|
        T.bind (draft_long (nth x x2 (dflt .str))) fun r1 =>
        .obl (((List.length s) + (List.length r1)) ≤ (4611686018427387904 : Nat)) <|
        .ret (.inl ((cat s r1), (w64 (x2 + (1 : Int))))))
      (.ret (.inr s))
noncomputable def draft_all_L0 (x : (List Str)) (x1 : Int) (s : (Str × Int)) : T (Str) := T.loop (draft_all_R0 x x1) s
noncomputable def draft_all (word : Str) (l : (List Str)) : T Str :=
  .obl (((List.length word) + (List.length ([32] : Str))) ≤ (4611686018427387904 : Nat)) <|
  T.bind (strconv_Itoa (Nat.cast (List.length l) : Int)) fun r =>
  .obl (((List.length (cat word ([32] : Str))) + (List.length r)) ≤ (4611686018427387904 : Nat)) <|
  .obl (((List.length (cat (cat word ([32] : Str)) r)) + (List.length ([10] : Str))) ≤ (4611686018427387904 : Nat)) <|
  T.bind (draft_all_L0 l (Nat.cast (List.length l) : Int) ((cat (cat (cat word ([32] : Str)) r) ([10] : Str)), (0 : Int))) fun s1 =>
  .ret s1
/-- pantograph/draft.yes -/
noncomputable def draft_yes (b : Bool) : T Str :=
  .ite b
    (.ret ([49] : Str))
    (.ret ([48] : Str))
/-- pantograph/draft.Save -/
noncomputable def draft_Save (d : draft_Draft) : T Str :=
  T.bind (draft_long d.1) fun r =>
  T.bind (draft_all ([112, 97, 115, 116] : Str) d.2.1.1) fun r1 =>
  .obl (((List.length r) + (List.length r1)) ≤ (4611686018427387904 : Nat)) <|
  T.bind (draft_all ([102, 117, 116, 117, 114, 101] : Str) d.2.1.2.1) fun r2 =>
  .obl (((List.length (cat r r1)) + (List.length r2)) ≤ (4611686018427387904 : Nat)) <|
  .obl (((List.length (cat (cat r r1) r2)) + (List.length ([112, 97, 103, 101, 32] : Str))) ≤ (4611686018427387904 : Nat)) <|
  T.bind (strconv_Itoa d.2.2.1) fun r3 =>
  .obl (((List.length (cat (cat (cat r r1) r2) ([112, 97, 103, 101, 32] : Str))) + (List.length r3)) ≤ (4611686018427387904 : Nat)) <|
  .obl (((List.length (cat (cat (cat (cat r r1) r2) ([112, 97, 103, 101, 32] : Str)) r3)) + (List.length ([10, 115, 101, 110, 116, 32] : Str))) ≤ (4611686018427387904 : Nat)) <|
  T.bind (draft_yes d.2.2.2.1) fun r4 =>
  .obl (((List.length (cat (cat (cat (cat (cat r r1) r2) ([112, 97, 103, 101, 32] : Str)) r3) ([10, 115, 101, 110, 116, 32] : Str))) + (List.length r4)) ≤ (4611686018427387904 : Nat)) <|
  .obl (((List.length (cat (cat (cat (cat (cat (cat r r1) r2) ([112, 97, 103, 101, 32] : Str)) r3) ([10, 115, 101, 110, 116, 32] : Str)) r4)) + (List.length ([10] : Str))) ≤ (4611686018427387904 : Nat)) <|
  .ret (cat (cat (cat (cat (cat (cat (cat r r1) r2) ([112, 97, 103, 101, 32] : Str)) r3) ([10, 115, 101, 110, 116, 32] : Str)) r4) ([10] : Str))
/-- pantograph/pantographlaw20.own -/
noncomputable def law20_own (d : draft_Draft) : T draft_Draft :=
  .ret (d.1, ((d.2.1.1, (d.2.1.2.1, ())), (d.2.2.1, (d.2.2.2.1, ()))))
/-- pantograph/pantographref1.Trim -/
noncomputable def ref1_Trim_R0 (a1 : (List Int)) : Int → T (Int ⊕ (Int))
  | n =>
    .obl (((decide ((0 : Int) < n)) = true) → (idxOk (w64 (n - (1 : Int))) (List.length a1))) <|
    .ite ((decide ((0 : Int) < n)) && ((nth a1 (w64 (n - (1 : Int))) (dflt (.int .u32))) == (0 : Int)))
      (.ret (.inl (w64 (n - (1 : Int)))))
      (.ret (.inr n))
noncomputable def ref1_Trim_L0 (a1 : (List Int)) (s : Int) : T (Int) := T.loop (ref1_Trim_R0 a1) s
noncomputable def ref1_Trim (a : (List Int)) : T (List Int) :=
  T.bind (ref1_Trim_L0 a (Nat.cast (List.length a) : Int)) fun n1 =>
  .obl (slOk (0 : Int) n1 (List.length a)) <|
  .ite (List.isEmpty (cutL (e := (.int .u32)) (0 : Int) n1 a))
    (.ret ([] : List Int))
    (.obl ((((0 : Nat) + (List.length (cutL (e := (.int .u32)) (0 : Int) n1 a))) * (4 : Nat)) ≤ (140737488355328 : Nat)) <|
      .obl (((0 : Nat) + (List.length (cutL (e := (.int .u32)) (0 : Int) n1 a))) = ((0 : Nat) + (List.length (cutL (e := (.int .u32)) (0 : Int) n1 a)))) <|
      .ret (List.drop (0 : Nat) (List.take ((0 : Nat) + ((0 : Nat) + (List.length (cutL (e := (.int .u32)) (0 : Int) n1 a)))) (cutL (e := (.int .u32)) (0 : Int) n1 a))))
/-- pantograph/pantographref1.Of -/
noncomputable def ref1_Of (n : Int) : T (List Int) :=
  .obl ((0 : Int) ≤ (32 : Int)) <|
  T.bind (ref1_Trim ([(wu32 n), (wu32 (shrI .u64 n (32 : Int)))] : List Int)) fun r =>
  .ret r
/-- pantograph/pantographref1.small -/
noncomputable def ref1_small_R0 (a1 : (List Int)) (by_1 : Int) : (Int × Int × (List Int)) → T ((Int × Int × (List Int)) ⊕ ((Int × (List Int))))
  | (r, i, xs) =>
    .ite (decide ((0 : Int) ≤ i))
      (.obl ((0 : Int) ≤ (32 : Int)) <|
        .obl (idxOk i (List.length a1)) <|
        .obl (by_1 ≠ (0 : Int)) <|
        .obl (idxOk i (List.length xs)) <|
        .obl (eOk (List.length xs) (List.length xs) ((0 : Nat) + (Int.toNat i)) (List.length xs)) <|
        .obl (by_1 ≠ (0 : Int)) <|
        .obl (curOk (List.length xs) (0 : Nat) (List.length xs) (List.length (List.set xs ((0 : Nat) + (Int.toNat i)) (wu32 (wu64 (Int.tdiv (orI .u64 (shlI .u64 r (32 : Int)) (wu64 (nth a1 i (dflt (.int .u32))))) by_1)))))) <|
        .obl ((List.length xs) = (List.length (List.set xs ((0 : Nat) + (Int.toNat i)) (wu32 (wu64 (Int.tdiv (orI .u64 (shlI .u64 r (32 : Int)) (wu64 (nth a1 i (dflt (.int .u32))))) by_1)))))) <|
        .ret (.inl ((Int.tmod (orI .u64 (shlI .u64 r (32 : Int)) (wu64 (nth a1 i (dflt (.int .u32))))) by_1), ((w64 (i - (1 : Int))), (List.set xs ((0 : Nat) + (Int.toNat i)) (wu32 (wu64 (Int.tdiv (orI .u64 (shlI .u64 r (32 : Int)) (wu64 (nth a1 i (dflt (.int .u32))))) by_1))))))))
      (.obl (curOk (List.length xs) (0 : Nat) (List.length xs) (List.length xs)) <|
        .obl ((List.length xs) = (List.length xs)) <|
        .ret (.inr (r, xs)))
noncomputable def ref1_small_L0 (a1 : (List Int)) (by_1 : Int) (s : (Int × Int × (List Int))) : T ((Int × (List Int))) := T.loop (ref1_small_R0 a1 by_1) s
noncomputable def ref1_small (a : (List Int)) (by_ : Int) : T ((List Int) × Int) :=
  .obl (mkOk (Nat.cast (List.length a) : Int) (Nat.cast (List.length a) : Int) (4 : Nat)) <|
  .obl (curOk (Int.toNat (Nat.cast (List.length a) : Int)) (0 : Nat) (Int.toNat (Nat.cast (List.length a) : Int)) (List.length (List.replicate (Int.toNat (Nat.cast (List.length a) : Int)) (0 : Int)))) <|
  .obl ((Int.toNat (Nat.cast (List.length a) : Int)) = (List.length (List.replicate (Int.toNat (Nat.cast (List.length a) : Int)) (0 : Int)))) <|
  T.bind (ref1_small_L0 a by_ ((0 : Int), ((w64 ((Nat.cast (List.length a) : Int) - (1 : Int))), (List.replicate (Int.toNat (Nat.cast (List.length a) : Int)) (0 : Int))))) fun (r1, xs1) =>
  .obl ((List.length xs1) = (List.length xs1)) <|
  T.bind (ref1_Trim (List.drop (0 : Nat) (List.take ((0 : Nat) + (List.length xs1)) xs1))) fun r2 =>
  .ret (r2, r1)
/-- pantograph/pantographref1.Print -/
noncomputable def ref1_Print_R0  : ((List Int) × Str) → T (((List Int) × Str) ⊕ (Str))
  | (t1, s) =>
    .ite (decide ((0 : Int) < (Nat.cast (List.length t1) : Int)))
      (T.bind (ref1_small t1 (10 : Int)) fun (t2, r) =>
        .obl (((List.length (bytesStr ([(wu8 (wu64 ((48 : Int) + r)))] : List Int))) + (List.length s)) ≤ (4611686018427387904 : Nat)) <|
        .ret (.inl (t2, (cat (bytesStr ([(wu8 (wu64 ((48 : Int) + r)))] : List Int)) s))))
      (.ret (.inr s))
noncomputable def ref1_Print_L0  (s : ((List Int) × Str)) : T (Str) := T.loop (ref1_Print_R0 ) s
noncomputable def ref1_Print (a : (List Int)) : T Str :=
  T.bind (ref1_Trim a) fun t =>
  .ite ((Nat.cast (List.length t) : Int) == (0 : Int))
    (.ret ([48] : Str))
    (T.bind (ref1_Print_L0  (t, ([] : Str))) fun s1 =>
      .ret s1)
/-- pantograph/pantographref20.whole -/
noncomputable def ref20_whole (n : Int) : T Str :=
  .ite (decide (n < (0 : Int)))
    (T.bind (ref1_Of (wu64 (w64 ((0 : Int) - n)))) fun r =>
      T.bind (ref1_Print r) fun r1 =>
      .obl (((List.length ([45] : Str)) + (List.length r1)) ≤ (4611686018427387904 : Nat)) <|
      .ret (cat ([45] : Str) r1))
    (T.bind (ref1_Of (wu64 n)) fun r2 =>
      T.bind (ref1_Print r2) fun r3 =>
      .ret r3)
/-- pantograph/pantographref20.sized -/
noncomputable def ref20_sized (s : Str) : T Str :=
  T.bind (ref20_whole (Nat.cast (List.length s) : Int)) fun r =>
  .obl (((List.length r) + (List.length ([10] : Str))) ≤ (4611686018427387904 : Nat)) <|
  .obl (((List.length (cat r ([10] : Str))) + (List.length s)) ≤ (4611686018427387904 : Nat)) <|
  .ret (cat (cat r ([10] : Str)) s)
/-- pantograph/pantographref20.rows -/
noncomputable def ref20_rows_R0 (l1 : (List Str)) : (Str × Int) → T ((Str × Int) ⊕ (Str))
  | (s, i) =>
    .ite (decide (i < (Nat.cast (List.length l1) : Int)))
      (.obl (idxOk i (List.length l1)) <|
        T.bind (ref20_sized (nth l1 i (dflt .str))) fun r1 =>
        .obl (((List.length s) + (List.length r1)) ≤ (4611686018427387904 : Nat)) <|
        .ret (.inl ((cat s r1), (w64 (i + (1 : Int))))))
      (.ret (.inr s))
noncomputable def ref20_rows_L0 (l1 : (List Str)) (s : (Str × Int)) : T (Str) := T.loop (ref20_rows_R0 l1) s
noncomputable def ref20_rows (name : Str) (l : (List Str)) : T Str :=
  .obl (((List.length name) + (List.length ([32] : Str))) ≤ (4611686018427387904 : Nat)) <|
  T.bind (ref20_whole (Nat.cast (List.length l) : Int)) fun r =>
  .obl (((List.length (cat name ([32] : Str))) + (List.length r)) ≤ (4611686018427387904 : Nat)) <|
  .obl (((List.length (cat (cat name ([32] : Str)) r)) + (List.length ([10] : Str))) ≤ (4611686018427387904 : Nat)) <|
  T.bind (ref20_rows_L0 l ((cat (cat (cat name ([32] : Str)) r) ([10] : Str)), (0 : Int))) fun s1 =>
  .ret s1
/-- pantograph/pantographref20.Save -/
noncomputable def ref20_Save (d : draft_Draft) : T Str :=
  T.bind (ref20_sized d.1) fun r =>
  T.bind (ref20_rows ([112, 97, 115, 116] : Str) d.2.1.1) fun r1 =>
  .obl (((List.length r) + (List.length r1)) ≤ (4611686018427387904 : Nat)) <|
  T.bind (ref20_rows ([102, 117, 116, 117, 114, 101] : Str) d.2.1.2.1) fun r2 =>
  .obl (((List.length (cat r r1)) + (List.length r2)) ≤ (4611686018427387904 : Nat)) <|
  .obl (((List.length (cat (cat r r1) r2)) + (List.length ([112, 97, 103, 101, 32] : Str))) ≤ (4611686018427387904 : Nat)) <|
  T.bind (ref20_whole d.2.2.1) fun r3 =>
  .obl (((List.length (cat (cat (cat r r1) r2) ([112, 97, 103, 101, 32] : Str))) + (List.length r3)) ≤ (4611686018427387904 : Nat)) <|
  .obl (((List.length (cat (cat (cat (cat r r1) r2) ([112, 97, 103, 101, 32] : Str)) r3)) + (List.length ([10, 115, 101, 110, 116, 32] : Str))) ≤ (4611686018427387904 : Nat)) <|
  .ite d.2.2.2.1
    (.obl (((List.length (cat (cat (cat (cat (cat r r1) r2) ([112, 97, 103, 101, 32] : Str)) r3) ([10, 115, 101, 110, 116, 32] : Str))) + (List.length ([49, 10] : Str))) ≤ (4611686018427387904 : Nat)) <|
      .ret (cat (cat (cat (cat (cat (cat r r1) r2) ([112, 97, 103, 101, 32] : Str)) r3) ([10, 115, 101, 110, 116, 32] : Str)) ([49, 10] : Str)))
    (.obl (((List.length (cat (cat (cat (cat (cat r r1) r2) ([112, 97, 103, 101, 32] : Str)) r3) ([10, 115, 101, 110, 116, 32] : Str))) + (List.length ([48, 10] : Str))) ≤ (4611686018427387904 : Nat)) <|
      .ret (cat (cat (cat (cat (cat (cat r r1) r2) ([112, 97, 103, 101, 32] : Str)) r3) ([10, 115, 101, 110, 116, 32] : Str)) ([48, 10] : Str)))
/-- pantograph/nat.Is -/
noncomputable def nat_Is (a : (List Int)) : T Bool :=
  .obl ((((Nat.cast (List.length a) : Int) == (0 : Int)) = false) → (idxOk (w64 ((Nat.cast (List.length a) : Int) - (1 : Int))) (List.length a))) <|
  .ret (((Nat.cast (List.length a) : Int) == (0 : Int)) || ((nth a (w64 ((Nat.cast (List.length a) : Int) - (1 : Int))) (dflt (.int .u32))) != (0 : Int)))
/-- pantograph/nat.trim -/
noncomputable def nat_trim_R0  : (List Int) → T ((List Int) ⊕ ((List Int)))
  | a1 =>
    T.bind (nat_Is a1) fun r =>
    .ite (!r)
      (.obl (slOk (0 : Int) (w64 ((Nat.cast (List.length a1) : Int) - (1 : Int))) (List.length a1)) <|
        .ret (.inl (cutL (e := (.int .u32)) (0 : Int) (w64 ((Nat.cast (List.length a1) : Int) - (1 : Int))) a1)))
      (.ret (.inr a1))
noncomputable def nat_trim_L0  (s : (List Int)) : T ((List Int)) := T.loop (nat_trim_R0 ) s
noncomputable def nat_trim (a : (List Int)) : T (List Int) :=
  T.bind (nat_trim_L0  a) fun a2 =>
  .ret a2
/-- slices.Clone[[]uint32,uint32] -/
noncomputable def slices_Clone_sl_uint32 (s : (List Int)) : T (List Int) :=
  .obl (s = [] → ∀ r, T.leads (.ite (List.isEmpty s)
        (.ret ([] : List Int))
        (.obl ((((0 : Nat) + (List.length s)) * (4 : Nat)) ≤ (140737488355328 : Nat)) <|
          .obl (((0 : Nat) + (List.length s)) = ((0 : Nat) + (List.length s))) <|
          .ret (List.drop (0 : Nat) (List.take ((0 : Nat) + ((0 : Nat) + (List.length s))) s))) : T _) r → T.leads (.ret ([] : List Int) : T _) r) <|
  .ite (List.isEmpty s)
    (.ret ([] : List Int))
    (.obl ((((0 : Nat) + (List.length s)) * (4 : Nat)) ≤ (140737488355328 : Nat)) <|
      .obl (((0 : Nat) + (List.length s)) = ((0 : Nat) + (List.length s))) <|
      .ret (List.drop (0 : Nat) (List.take ((0 : Nat) + ((0 : Nat) + (List.length s))) s)))
/-- pantograph/nat.Trim -/
noncomputable def nat_Trim (a : (List Int)) : T (List Int) :=
  T.bind (nat_trim a) fun r =>
  T.bind (slices_Clone_sl_uint32 r) fun r1 =>
  .ret r1
/-- pantograph/nat.Of -/
noncomputable def nat_Of (n : Int) : T (List Int) :=
  .obl ((0 : Int) ≤ (32 : Int)) <|
  T.bind (nat_trim ([(wu32 n), (wu32 (shrI .u64 n (32 : Int)))] : List Int)) fun r =>
  .ret r
/-- pantograph/nat.Cmp -/
noncomputable def nat_Cmp_R0 (a2 : (List Int)) (b2 : (List Int)) : Int → T (Int ⊕ (Unit ⊕ Int))
  | i =>
    .ite (decide ((0 : Int) ≤ i))
      (.obl (idxOk i (List.length a2)) <|
        .obl (idxOk i (List.length b2)) <|
        .ite ((nth a2 i (dflt (.int .u32))) != (nth b2 i (dflt (.int .u32))))
          (.obl (idxOk i (List.length a2)) <|
            .obl (idxOk i (List.length b2)) <|
            .ite (decide ((nth a2 i (dflt (.int .u32))) < (nth b2 i (dflt (.int .u32)))))
              (.ret (.inr (.inr (-1 : Int))))
              (.ret (.inr (.inr (1 : Int)))))
          (.ret (.inl (w64 (i - (1 : Int))))))
      (.ret (.inr (.inl ())))
noncomputable def nat_Cmp_L0 (a2 : (List Int)) (b2 : (List Int)) (s : Int) : T (Unit ⊕ Int) := T.loop (nat_Cmp_R0 a2 b2) s
noncomputable def nat_Cmp (a : (List Int)) (b : (List Int)) : T Int :=
  T.bind (nat_trim a) fun a1 =>
  T.bind (nat_trim b) fun b1 =>
  .ite ((Nat.cast (List.length a1) : Int) != (Nat.cast (List.length b1) : Int))
    (.ite (decide ((Nat.cast (List.length a1) : Int) < (Nat.cast (List.length b1) : Int)))
        (.ret (-1 : Int))
        (.ret (1 : Int)))
    (T.bind (nat_Cmp_L0 a1 b1 (w64 ((Nat.cast (List.length a1) : Int) - (1 : Int)))) <|
        Sum.elim (fun _ =>
          .ret (0 : Int))
        (fun x =>
          .ret x))
/-- math/bits.Div32 -/
noncomputable def math_bits_Div32 (hi : Int) (lo : Int) (y : Int) : T (Int × Int) :=
  .ite ((y != (0 : Int)) && (decide (y ≤ hi)))
    (.fail)
    (.obl ((0 : Int) ≤ (32 : Int)) <|
      .obl ((wu64 y) ≠ (0 : Int)) <|
      .obl ((wu64 y) ≠ (0 : Int)) <|
      .ret ((wu32 (wu64 (Int.tdiv (orI .u64 (shlI .u64 (wu64 hi) (32 : Int)) (wu64 lo)) (wu64 y)))), (wu32 (Int.tmod (orI .u64 (shlI .u64 (wu64 hi) (32 : Int)) (wu64 lo)) (wu64 y)))))
/-- pantograph/nat.small -/
noncomputable def nat_small_R0 (a1 : (List Int)) (b1 : Int) : (Int × Int × (List Int)) → T ((Int × Int × (List Int)) ⊕ ((Int × (List Int))))
  | (rest, i, xs) =>
    .ite (decide ((0 : Int) ≤ i))
      (.obl (idxOk i (List.length a1)) <|
        T.bind (math_bits_Div32 rest (nth a1 i (dflt (.int .u32))) b1) fun (r, rest1) =>
        .obl (idxOk i (List.length xs)) <|
        .obl (eOk (List.length xs) (List.length xs) ((0 : Nat) + (Int.toNat i)) (List.length xs)) <|
        .obl (curOk (List.length xs) (0 : Nat) (List.length xs) (List.length (List.set xs ((0 : Nat) + (Int.toNat i)) r))) <|
        .obl ((List.length xs) = (List.length (List.set xs ((0 : Nat) + (Int.toNat i)) r))) <|
        .ret (.inl (rest1, ((w64 (i - (1 : Int))), (List.set xs ((0 : Nat) + (Int.toNat i)) r)))))
      (.obl (curOk (List.length xs) (0 : Nat) (List.length xs) (List.length xs)) <|
        .obl ((List.length xs) = (List.length xs)) <|
        .ret (.inr (rest, xs)))
noncomputable def nat_small_L0 (a1 : (List Int)) (b1 : Int) (s : (Int × Int × (List Int))) : T ((Int × (List Int))) := T.loop (nat_small_R0 a1 b1) s
noncomputable def nat_small (a : (List Int)) (b : Int) : T ((List Int) × Int) :=
  .obl (mkOk (Nat.cast (List.length a) : Int) (Nat.cast (List.length a) : Int) (4 : Nat)) <|
  .obl (curOk (Int.toNat (Nat.cast (List.length a) : Int)) (0 : Nat) (Int.toNat (Nat.cast (List.length a) : Int)) (List.length (List.replicate (Int.toNat (Nat.cast (List.length a) : Int)) (0 : Int)))) <|
  .obl ((Int.toNat (Nat.cast (List.length a) : Int)) = (List.length (List.replicate (Int.toNat (Nat.cast (List.length a) : Int)) (0 : Int)))) <|
  T.bind (nat_small_L0 a b ((0 : Int), ((w64 ((Nat.cast (List.length a) : Int) - (1 : Int))), (List.replicate (Int.toNat (Nat.cast (List.length a) : Int)) (0 : Int))))) fun (rest2, xs1) =>
  .obl ((List.length xs1) = (List.length xs1)) <|
  T.bind (nat_trim (List.drop (0 : Nat) (List.take ((0 : Nat) + (List.length xs1)) xs1))) fun r1 =>
  .ret (r1, rest2)
/-- math/bits.Len32 -/
noncomputable def math_bits_Len32 (x : Int) : T Int :=
  .obl (((decide ((65536 : Int) ≤ x)) = true) → ((0 : Int) ≤ (16 : Int))) <|
  .obl (((decide ((256 : Int) ≤ (bif (decide ((65536 : Int) ≤ x)) then (shrI .u32 x (16 : Int)) else x))) = true) → ((0 : Int) ≤ (8 : Int))) <|
  .obl (idxOk (wu8 (bif (decide ((256 : Int) ≤ (bif (decide ((65536 : Int) ≤ x)) then (shrI .u32 x (16 : Int)) else x))) then (shrI .u32 (bif (decide ((65536 : Int) ≤ x)) then (shrI .u32 x (16 : Int)) else x) (8 : Int)) else (bif (decide ((65536 : Int) ≤ x)) then (shrI .u32 x (16 : Int)) else x))) (List.length ([0, 1, 2, 2, 3, 3, 3, 3, 4, 4, 4, 4, 4, 4, 4, 4, 5, 5, 5, 5, 5, 5, 5, 5, 5, 5, 5, 5, 5, 5, 5, 5, 6, 6, 6, 6, 6, 6, 6, 6, 6, 6, 6, 6, 6, 6, 6, 6, 6, 6, 6, 6, 6, 6, 6, 6, 6, 6, 6, 6, 6, 6, 6, 6, 7, 7, 7, 7, 7, 7, 7, 7, 7, 7, 7, 7, 7, 7, 7, 7, 7, 7, 7, 7, 7, 7, 7, 7, 7, 7, 7, 7, 7, 7, 7, 7, 7, 7, 7, 7, 7, 7, 7, 7, 7, 7, 7, 7, 7, 7, 7, 7, 7, 7, 7, 7, 7, 7, 7, 7, 7, 7, 7, 7, 7, 7, 7, 7, 8, 8, 8, 8, 8, 8, 8, 8, 8, 8, 8, 8, 8, 8, 8, 8, 8, 8, 8, 8, 8, 8, 8, 8, 8, 8, 8, 8, 8, 8, 8, 8, 8, 8, 8, 8, 8, 8, 8, 8, 8, 8, 8, 8, 8, 8, 8, 8, 8, 8, 8, 8, 8, 8, 8, 8, 8, 8, 8, 8, 8, 8, 8, 8, 8, 8, 8, 8, 8, 8, 8, 8, 8, 8, 8, 8, 8, 8, 8, 8, 8, 8, 8, 8, 8, 8, 8, 8, 8, 8, 8, 8, 8, 8, 8, 8, 8, 8, 8, 8, 8, 8, 8, 8, 8, 8, 8, 8, 8, 8, 8, 8, 8, 8, 8, 8, 8, 8, 8, 8, 8, 8, 8, 8, 8, 8, 8, 8] : Str))) <|
  .ret (w64 ((bif (decide ((256 : Int) ≤ (bif (decide ((65536 : Int) ≤ x)) then (shrI .u32 x (16 : Int)) else x))) then (w64 ((bif (decide ((65536 : Int) ≤ x)) then (16 : Int) else (0 : Int)) + (8 : Int))) else (bif (decide ((65536 : Int) ≤ x)) then (16 : Int) else (0 : Int))) + (w64 (byteAt ([0, 1, 2, 2, 3, 3, 3, 3, 4, 4, 4, 4, 4, 4, 4, 4, 5, 5, 5, 5, 5, 5, 5, 5, 5, 5, 5, 5, 5, 5, 5, 5, 6, 6, 6, 6, 6, 6, 6, 6, 6, 6, 6, 6, 6, 6, 6, 6, 6, 6, 6, 6, 6, 6, 6, 6, 6, 6, 6, 6, 6, 6, 6, 6, 7, 7, 7, 7, 7, 7, 7, 7, 7, 7, 7, 7, 7, 7, 7, 7, 7, 7, 7, 7, 7, 7, 7, 7, 7, 7, 7, 7, 7, 7, 7, 7, 7, 7, 7, 7, 7, 7, 7, 7, 7, 7, 7, 7, 7, 7, 7, 7, 7, 7, 7, 7, 7, 7, 7, 7, 7, 7, 7, 7, 7, 7, 7, 7, 8, 8, 8, 8, 8, 8, 8, 8, 8, 8, 8, 8, 8, 8, 8, 8, 8, 8, 8, 8, 8, 8, 8, 8, 8, 8, 8, 8, 8, 8, 8, 8, 8, 8, 8, 8, 8, 8, 8, 8, 8, 8, 8, 8, 8, 8, 8, 8, 8, 8, 8, 8, 8, 8, 8, 8, 8, 8, 8, 8, 8, 8, 8, 8, 8, 8, 8, 8, 8, 8, 8, 8, 8, 8, 8, 8, 8, 8, 8, 8, 8, 8, 8, 8, 8, 8, 8, 8, 8, 8, 8, 8, 8, 8, 8, 8, 8, 8, 8, 8, 8, 8, 8, 8, 8, 8, 8, 8, 8, 8, 8, 8, 8, 8, 8, 8, 8, 8, 8, 8, 8, 8, 8, 8, 8, 8, 8, 8] : Str) (wu8 (bif (decide ((256 : Int) ≤ (bif (decide ((65536 : Int) ≤ x)) then (shrI .u32 x (16 : Int)) else x))) then (shrI .u32 (bif (decide ((65536 : Int) ≤ x)) then (shrI .u32 x (16 : Int)) else x) (8 : Int)) else (bif (decide ((65536 : Int) ≤ x)) then (shrI .u32 x (16 : Int)) else x)))))))
/-- math/bits.LeadingZeros32 -/
noncomputable def math_bits_LeadingZeros32 (x : Int) : T Int :=
  T.bind (math_bits_Len32 x) fun r =>
  .ret (w64 ((32 : Int) - r))
/-- pantograph/nat.left -/
noncomputable def nat_left_S_R0 (by_1 : Int) (n1 : Int) (x : (List Int)) (x1 : Int) : (Int × (List Int)) → T ((Int × (List Int)) ⊕ ((List Int)))
  | (x2, xs) =>
    .ite (decide (x2 < x1))
      (.obl (idxOk x2 (List.length x)) <|
        .obl ((0 : Int) ≤ by_1) <|
        .obl (idxOk x2 (List.length xs)) <|
        .obl (eOk (List.length xs) (List.length xs) ((0 : Nat) + (Int.toNat x2)) (List.length xs)) <|
        .obl (idxOk x2 (List.length xs)) <|
        .obl (eOk (List.length xs) (List.length xs) ((0 : Nat) + (Int.toNat x2)) (List.length xs)) <|
        .ite (decide ((w64 (x2 + (1 : Int))) < n1))
          (.obl ((0 : Int) ≤ (32 : Int)) <|
            .obl (idxOk (w64 (x2 + (1 : Int))) (List.length xs)) <|
            .obl (eOk (List.length xs) (List.length xs) ((0 : Nat) + (Int.toNat (w64 (x2 + (1 : Int))))) (List.length (List.set xs ((0 : Nat) + (Int.toNat x2)) (orI .u32 (nthN xs ((0 : Nat) + (Int.toNat x2)) (dflt (.int .u32))) (wu32 (shlI .u64 (wu64 (nth x x2 (dflt (.int .u32)))) by_1)))))) <|
            .obl (curOk (List.length xs) (0 : Nat) (List.length xs) (List.length (List.set (List.set xs ((0 : Nat) + (Int.toNat x2)) (orI .u32 (nthN xs ((0 : Nat) + (Int.toNat x2)) (dflt (.int .u32))) (wu32 (shlI .u64 (wu64 (nth x x2 (dflt (.int .u32)))) by_1)))) ((0 : Nat) + (Int.toNat (w64 (x2 + (1 : Int))))) (wu32 (shrI .u64 (shlI .u64 (wu64 (nth x x2 (dflt (.int .u32)))) by_1) (32 : Int)))))) <|
            .obl ((List.length xs) = (List.length (List.set (List.set xs ((0 : Nat) + (Int.toNat x2)) (orI .u32 (nthN xs ((0 : Nat) + (Int.toNat x2)) (dflt (.int .u32))) (wu32 (shlI .u64 (wu64 (nth x x2 (dflt (.int .u32)))) by_1)))) ((0 : Nat) + (Int.toNat (w64 (x2 + (1 : Int))))) (wu32 (shrI .u64 (shlI .u64 (wu64 (nth x x2 (dflt (.int .u32)))) by_1) (32 : Int)))))) <|
            .ret (.inl ((w64 (x2 + (1 : Int))), (List.set (List.set xs ((0 : Nat) + (Int.toNat x2)) (orI .u32 (nthN xs ((0 : Nat) + (Int.toNat x2)) (dflt (.int .u32))) (wu32 (shlI .u64 (wu64 (nth x x2 (dflt (.int .u32)))) by_1)))) ((0 : Nat) + (Int.toNat (w64 (x2 + (1 : Int))))) (wu32 (shrI .u64 (shlI .u64 (wu64 (nth x x2 (dflt (.int .u32)))) by_1) (32 : Int)))))))
          (.obl (curOk (List.length xs) (0 : Nat) (List.length xs) (List.length (List.set xs ((0 : Nat) + (Int.toNat x2)) (orI .u32 (nthN xs ((0 : Nat) + (Int.toNat x2)) (dflt (.int .u32))) (wu32 (shlI .u64 (wu64 (nth x x2 (dflt (.int .u32)))) by_1)))))) <|
            .obl ((List.length xs) = (List.length (List.set xs ((0 : Nat) + (Int.toNat x2)) (orI .u32 (nthN xs ((0 : Nat) + (Int.toNat x2)) (dflt (.int .u32))) (wu32 (shlI .u64 (wu64 (nth x x2 (dflt (.int .u32)))) by_1)))))) <|
            .ret (.inl ((w64 (x2 + (1 : Int))), (List.set xs ((0 : Nat) + (Int.toNat x2)) (orI .u32 (nthN xs ((0 : Nat) + (Int.toNat x2)) (dflt (.int .u32))) (wu32 (shlI .u64 (wu64 (nth x x2 (dflt (.int .u32)))) by_1))))))))
      (.obl (curOk (List.length xs) (0 : Nat) (List.length xs) (List.length xs)) <|
        .obl ((List.length xs) = (List.length xs)) <|
        .ret (.inr xs))
noncomputable def nat_left_S_L0 (by_1 : Int) (n1 : Int) (x : (List Int)) (x1 : Int) (s : (Int × (List Int))) : T ((List Int)) := T.loop (nat_left_S_R0 by_1 n1 x x1) s
noncomputable def nat_left_S (a : (List Int)) (by_ : Int) (n : Int) : T (List Int) :=
  .obl (mkOk n n (4 : Nat)) <|
  .obl (curOk (Int.toNat n) (0 : Nat) (Int.toNat n) (List.length (List.replicate (Int.toNat n) (0 : Int)))) <|
  .obl ((Int.toNat n) = (List.length (List.replicate (Int.toNat n) (0 : Int)))) <|
  T.bind (nat_left_S_L0 by_ n a (Nat.cast (List.length a) : Int) ((0 : Int), (List.replicate (Int.toNat n) (0 : Int)))) fun xs1 =>
  .obl (curOk (List.length xs1) (0 : Nat) (List.length xs1) (List.length xs1)) <|
  .obl ((List.length xs1) = (List.length xs1)) <|
  .ret xs1
/-- pantograph/nat.guess -/
noncomputable def nat_guess_R0 (low1 : Int) (b11 : Int) (b21 : Int) : (Int × Int) → T ((Int × Int) ⊕ (Int))
  | (q, r) =>
    .obl (((0 : Int) ≤ (32 : Int)) ∧ ((((shrI .u64 q (32 : Int)) != (0 : Int)) = false) → ((0 : Int) ≤ (32 : Int)))) <|
    .ite (((shrI .u64 q (32 : Int)) != (0 : Int)) || (decide ((orI .u64 (shlI .u64 r (32 : Int)) (wu64 low1)) < (wu64 (q * (wu64 b21))))))
      (.obl ((0 : Int) ≤ (32 : Int)) <|
        .ite ((shrI .u64 (wu64 (r + (wu64 b11))) (32 : Int)) != (0 : Int))
          (.ret (.inr (wu64 (q - (1 : Int)))))
          (.ret (.inl ((wu64 (q - (1 : Int))), (wu64 (r + (wu64 b11)))))))
      (.ret (.inr q))
noncomputable def nat_guess_L0 (low1 : Int) (b11 : Int) (b21 : Int) (s : (Int × Int)) : T (Int) := T.loop (nat_guess_R0 low1 b11 b21) s
noncomputable def nat_guess (high : Int) (mid : Int) (low : Int) (b1 : Int) (b2 : Int) : T Int :=
  .obl ((0 : Int) ≤ (32 : Int)) <|
  .obl ((wu64 b1) ≠ (0 : Int)) <|
  .obl ((wu64 b1) ≠ (0 : Int)) <|
  T.bind (nat_guess_L0 low b1 b2 ((wu64 (Int.tdiv (orI .u64 (shlI .u64 (wu64 high) (32 : Int)) (wu64 mid)) (wu64 b1))), (Int.tmod (orI .u64 (shlI .u64 (wu64 high) (32 : Int)) (wu64 mid)) (wu64 b1)))) fun q1 =>
  .ret q1
/-- math/bits.Sub32 -/
noncomputable def math_bits_Sub32 (x : Int) (y : Int) (borrow : Int) : T (Int × Int) :=
  .obl ((0 : Int) ≤ (31 : Int)) <|
  .ret ((wu32 ((wu32 (x - y)) - borrow)), (shrI .u32 (orI .u32 (andI .u32 (xorI .u32 (4294967295 : Int) x) y) (andI .u32 (xorI .u32 (4294967295 : Int) (xorI .u32 x y)) (wu32 ((wu32 (x - y)) - borrow)))) (31 : Int)))
/-- math/bits.Add32 -/
noncomputable def math_bits_Add32 (x : Int) (y : Int) (carry : Int) : T (Int × Int) :=
  .obl ((0 : Int) ≤ (32 : Int)) <|
  .ret ((wu32 (wu64 ((wu64 ((wu64 x) + (wu64 y))) + (wu64 carry)))), (wu32 (shrI .u64 (wu64 ((wu64 ((wu64 x) + (wu64 y))) + (wu64 carry))) (32 : Int))))
/-- pantograph/nat.takes -/
noncomputable def nat_takes_S_R0 (b1 : (List Int)) (q1 : Int) (x : (List Int)) (x1 : Int) : ((Nat × Nat) × Int × Int × Int × (List Int)) → T (((Nat × Nat) × Int × Int × Int × (List Int)) ⊕ (((Nat × Nat) × Int × Int × (List Int))))
  | (u1, carry, borrow, x2, xs) =>
    .ite (decide (x2 < x1))
      (.obl (idxOk x2 (List.length x)) <|
        .obl (idxOk x2 u1.2) <|
        .obl (eOk (List.length xs) (List.length xs) (u1.1 + (Int.toNat x2)) (List.length xs)) <|
        T.bind (math_bits_Sub32 (nthN xs (u1.1 + (Int.toNat x2)) (dflt (.int .u32))) (wu32 (wu64 (carry + (wu64 (q1 * (wu64 (nth x x2 (dflt (.int .u32))))))))) borrow) fun (r, borrow1) =>
        .obl (idxOk x2 u1.2) <|
        .obl (eOk (List.length xs) (List.length xs) (u1.1 + (Int.toNat x2)) (List.length xs)) <|
        .obl ((0 : Int) ≤ (32 : Int)) <|
        .obl ((List.length xs) = (List.length xs)) <|
        .obl ((List.length xs) = (List.length (List.set xs (u1.1 + (Int.toNat x2)) r))) <|
        .ret (.inl (u1, ((shrI .u64 (wu64 (carry + (wu64 (q1 * (wu64 (nth x x2 (dflt (.int .u32)))))))) (32 : Int)), (borrow1, ((w64 (x2 + (1 : Int))), (List.set xs (u1.1 + (Int.toNat x2)) r)))))))
      (.obl ((List.length xs) = (List.length xs)) <|
        .obl ((List.length xs) = (List.length xs)) <|
        .ret (.inr (u1, (carry, (borrow, xs)))))
noncomputable def nat_takes_S_L0 (b1 : (List Int)) (q1 : Int) (x : (List Int)) (x1 : Int) (s : ((Nat × Nat) × Int × Int × Int × (List Int))) : T (((Nat × Nat) × Int × Int × (List Int))) := T.loop (nat_takes_S_R0 b1 q1 x x1) s
noncomputable def nat_takes_S_R1 (b2 : (List Int)) (x3 : (List Int)) (x4 : Int) : ((Nat × Nat) × Int × Int × (List Int)) → T (((Nat × Nat) × Int × Int × (List Int)) ⊕ (((Nat × Nat) × Int × (List Int))))
  | (u3, more, x5, xs2) =>
    .ite (decide (x5 < x4))
      (.obl (idxOk x5 (List.length x3)) <|
        .obl (idxOk x5 u3.2) <|
        .obl (eOk (List.length xs2) (List.length xs2) (u3.1 + (Int.toNat x5)) (List.length xs2)) <|
        T.bind (math_bits_Add32 (nthN xs2 (u3.1 + (Int.toNat x5)) (dflt (.int .u32))) (nth x3 x5 (dflt (.int .u32))) more) fun (r2, more1) =>
        .obl (idxOk x5 u3.2) <|
        .obl (eOk (List.length xs2) (List.length xs2) (u3.1 + (Int.toNat x5)) (List.length xs2)) <|
        .obl ((List.length xs2) = (List.length xs2)) <|
        .obl ((List.length xs2) = (List.length (List.set xs2 (u3.1 + (Int.toNat x5)) r2))) <|
        .ret (.inl (u3, (more1, ((w64 (x5 + (1 : Int))), (List.set xs2 (u3.1 + (Int.toNat x5)) r2))))))
      (.obl ((List.length xs2) = (List.length xs2)) <|
        .obl ((List.length xs2) = (List.length xs2)) <|
        .ret (.inr (u3, (more, xs2))))
noncomputable def nat_takes_S_L1 (b2 : (List Int)) (x3 : (List Int)) (x4 : Int) (s : ((Nat × Nat) × Int × Int × (List Int))) : T (((Nat × Nat) × Int × (List Int))) := T.loop (nat_takes_S_R1 b2 x3 x4) s
noncomputable def nat_takes_S (uw : (Nat × Nat)) (b : (List Int)) (q : Int) (u : (List Int)) : T (Bool × (List Int)) :=
  .obl ((List.length u) = (List.length u)) <|
  .obl ((List.length u) = (List.length u)) <|
  T.bind (nat_takes_S_L0 b q b (Nat.cast (List.length b) : Int) (uw, ((0 : Int), ((0 : Int), ((0 : Int), u))))) fun (u2, carry1, borrow2, xs1) =>
  .obl (idxOk (Nat.cast (List.length b) : Int) u2.2) <|
  .obl (eOk (List.length xs1) (List.length xs1) (u2.1 + (Int.toNat (Nat.cast (List.length b) : Int))) (List.length xs1)) <|
  T.bind (math_bits_Sub32 (nthN xs1 (u2.1 + (Int.toNat (Nat.cast (List.length b) : Int))) (dflt (.int .u32))) (wu32 carry1) borrow2) fun (r1, borrow3) =>
  .obl (idxOk (Nat.cast (List.length b) : Int) u2.2) <|
  .obl (eOk (List.length xs1) (List.length xs1) (u2.1 + (Int.toNat (Nat.cast (List.length b) : Int))) (List.length xs1)) <|
  .ite (borrow3 == (0 : Int))
    (.obl ((List.length xs1) = (List.length (List.set xs1 (u2.1 + (Int.toNat (Nat.cast (List.length b) : Int))) r1))) <|
      .ret (false, (List.set xs1 (u2.1 + (Int.toNat (Nat.cast (List.length b) : Int))) r1)))
    (.obl ((List.length xs1) = (List.length xs1)) <|
      .obl ((List.length xs1) = (List.length (List.set xs1 (u2.1 + (Int.toNat (Nat.cast (List.length b) : Int))) r1))) <|
      T.bind (nat_takes_S_L1 b b (Nat.cast (List.length b) : Int) (u2, ((0 : Int), ((0 : Int), (List.set xs1 (u2.1 + (Int.toNat (Nat.cast (List.length b) : Int))) r1))))) fun (u4, more2, xs3) =>
      .obl (idxOk (Nat.cast (List.length b) : Int) u4.2) <|
      .obl (eOk (List.length xs3) (List.length xs3) (u4.1 + (Int.toNat (Nat.cast (List.length b) : Int))) (List.length xs3)) <|
      .obl (idxOk (Nat.cast (List.length b) : Int) u4.2) <|
      .obl (eOk (List.length xs3) (List.length xs3) (u4.1 + (Int.toNat (Nat.cast (List.length b) : Int))) (List.length xs3)) <|
      .obl ((List.length xs3) = (List.length (List.set xs3 (u4.1 + (Int.toNat (Nat.cast (List.length b) : Int))) (wu32 ((nthN xs3 (u4.1 + (Int.toNat (Nat.cast (List.length b) : Int))) (dflt (.int .u32))) + more2))))) <|
      .ret (true, (List.set xs3 (u4.1 + (Int.toNat (Nat.cast (List.length b) : Int))) (wu32 ((nthN xs3 (u4.1 + (Int.toNat (Nat.cast (List.length b) : Int))) (dflt (.int .u32))) + more2)))))
/-- pantograph/nat.left -/
noncomputable def nat_left_R0 (by_1 : Int) (n1 : Int) (x : (List Int)) (x1 : Int) : (Int × (List Int)) → T ((Int × (List Int)) ⊕ ((List Int)))
  | (x2, xs) =>
    .ite (decide (x2 < x1))
      (.obl (idxOk x2 (List.length x)) <|
        .obl ((0 : Int) ≤ by_1) <|
        .obl (idxOk x2 (List.length xs)) <|
        .obl (eOk (List.length xs) (List.length xs) ((0 : Nat) + (Int.toNat x2)) (List.length xs)) <|
        .obl (idxOk x2 (List.length xs)) <|
        .obl (eOk (List.length xs) (List.length xs) ((0 : Nat) + (Int.toNat x2)) (List.length xs)) <|
        .ite (decide ((w64 (x2 + (1 : Int))) < n1))
          (.obl ((0 : Int) ≤ (32 : Int)) <|
            .obl (idxOk (w64 (x2 + (1 : Int))) (List.length xs)) <|
            .obl (eOk (List.length xs) (List.length xs) ((0 : Nat) + (Int.toNat (w64 (x2 + (1 : Int))))) (List.length (List.set xs ((0 : Nat) + (Int.toNat x2)) (orI .u32 (nthN xs ((0 : Nat) + (Int.toNat x2)) (dflt (.int .u32))) (wu32 (shlI .u64 (wu64 (nth x x2 (dflt (.int .u32)))) by_1)))))) <|
            .obl (curOk (List.length xs) (0 : Nat) (List.length xs) (List.length (List.set (List.set xs ((0 : Nat) + (Int.toNat x2)) (orI .u32 (nthN xs ((0 : Nat) + (Int.toNat x2)) (dflt (.int .u32))) (wu32 (shlI .u64 (wu64 (nth x x2 (dflt (.int .u32)))) by_1)))) ((0 : Nat) + (Int.toNat (w64 (x2 + (1 : Int))))) (wu32 (shrI .u64 (shlI .u64 (wu64 (nth x x2 (dflt (.int .u32)))) by_1) (32 : Int)))))) <|
            .obl ((List.length xs) = (List.length (List.set (List.set xs ((0 : Nat) + (Int.toNat x2)) (orI .u32 (nthN xs ((0 : Nat) + (Int.toNat x2)) (dflt (.int .u32))) (wu32 (shlI .u64 (wu64 (nth x x2 (dflt (.int .u32)))) by_1)))) ((0 : Nat) + (Int.toNat (w64 (x2 + (1 : Int))))) (wu32 (shrI .u64 (shlI .u64 (wu64 (nth x x2 (dflt (.int .u32)))) by_1) (32 : Int)))))) <|
            .ret (.inl ((w64 (x2 + (1 : Int))), (List.set (List.set xs ((0 : Nat) + (Int.toNat x2)) (orI .u32 (nthN xs ((0 : Nat) + (Int.toNat x2)) (dflt (.int .u32))) (wu32 (shlI .u64 (wu64 (nth x x2 (dflt (.int .u32)))) by_1)))) ((0 : Nat) + (Int.toNat (w64 (x2 + (1 : Int))))) (wu32 (shrI .u64 (shlI .u64 (wu64 (nth x x2 (dflt (.int .u32)))) by_1) (32 : Int)))))))
          (.obl (curOk (List.length xs) (0 : Nat) (List.length xs) (List.length (List.set xs ((0 : Nat) + (Int.toNat x2)) (orI .u32 (nthN xs ((0 : Nat) + (Int.toNat x2)) (dflt (.int .u32))) (wu32 (shlI .u64 (wu64 (nth x x2 (dflt (.int .u32)))) by_1)))))) <|
            .obl ((List.length xs) = (List.length (List.set xs ((0 : Nat) + (Int.toNat x2)) (orI .u32 (nthN xs ((0 : Nat) + (Int.toNat x2)) (dflt (.int .u32))) (wu32 (shlI .u64 (wu64 (nth x x2 (dflt (.int .u32)))) by_1)))))) <|
            .ret (.inl ((w64 (x2 + (1 : Int))), (List.set xs ((0 : Nat) + (Int.toNat x2)) (orI .u32 (nthN xs ((0 : Nat) + (Int.toNat x2)) (dflt (.int .u32))) (wu32 (shlI .u64 (wu64 (nth x x2 (dflt (.int .u32)))) by_1))))))))
      (.obl (curOk (List.length xs) (0 : Nat) (List.length xs) (List.length xs)) <|
        .obl ((List.length xs) = (List.length xs)) <|
        .ret (.inr xs))
noncomputable def nat_left_L0 (by_1 : Int) (n1 : Int) (x : (List Int)) (x1 : Int) (s : (Int × (List Int))) : T ((List Int)) := T.loop (nat_left_R0 by_1 n1 x x1) s
noncomputable def nat_left (a : (List Int)) (by_ : Int) (n : Int) : T (List Int) :=
  .obl (mkOk n n (4 : Nat)) <|
  .obl (curOk (Int.toNat n) (0 : Nat) (Int.toNat n) (List.length (List.replicate (Int.toNat n) (0 : Int)))) <|
  .obl ((Int.toNat n) = (List.length (List.replicate (Int.toNat n) (0 : Int)))) <|
  T.bind (nat_left_L0 by_ n a (Nat.cast (List.length a) : Int) ((0 : Int), (List.replicate (Int.toNat n) (0 : Int)))) fun xs1 =>
  .obl ((List.length xs1) = (List.length xs1)) <|
  .ret (List.drop (0 : Nat) (List.take ((0 : Nat) + (List.length xs1)) xs1))
/-- pantograph/nat.Shift -/
noncomputable def nat_Shift_R0 (by_ : Int) (x : (List Int)) (x1 : Int) : (Int × (List Int)) → T ((Int × (List Int)) ⊕ ((List Int)))
  | (x2, xs) =>
    .ite (decide (x2 < x1))
      (.obl (idxOk x2 (List.length x)) <|
        .obl ((0 : Int) ≤ (32 : Int)) <|
        .obl ((0 : Int) ≤ by_) <|
        .obl (idxOk x2 (List.length xs)) <|
        .obl (eOk (List.length xs) (List.length xs) ((0 : Nat) + (Int.toNat x2)) (List.length xs)) <|
        .obl ((0 : Int) ≤ (32 : Int)) <|
        .obl (idxOk x2 (List.length xs)) <|
        .obl (eOk (List.length xs) (List.length xs) ((0 : Nat) + (Int.toNat x2)) (List.length xs)) <|
        .ite (decide ((0 : Int) < x2))
          (.obl (idxOk (w64 (x2 - (1 : Int))) (List.length xs)) <|
            .obl (eOk (List.length xs) (List.length xs) ((0 : Nat) + (Int.toNat (w64 (x2 - (1 : Int))))) (List.length (List.set xs ((0 : Nat) + (Int.toNat x2)) (orI .u32 (nthN xs ((0 : Nat) + (Int.toNat x2)) (dflt (.int .u32))) (wu32 (shrI .u64 (shrI .u64 (shlI .u64 (wu64 (nth x x2 (dflt (.int .u32)))) (32 : Int)) by_) (32 : Int))))))) <|
            .obl (idxOk (w64 (x2 - (1 : Int))) (List.length xs)) <|
            .obl (eOk (List.length xs) (List.length xs) ((0 : Nat) + (Int.toNat (w64 (x2 - (1 : Int))))) (List.length (List.set xs ((0 : Nat) + (Int.toNat x2)) (orI .u32 (nthN xs ((0 : Nat) + (Int.toNat x2)) (dflt (.int .u32))) (wu32 (shrI .u64 (shrI .u64 (shlI .u64 (wu64 (nth x x2 (dflt (.int .u32)))) (32 : Int)) by_) (32 : Int))))))) <|
            .obl (curOk (List.length xs) (0 : Nat) (List.length xs) (List.length (List.set (List.set xs ((0 : Nat) + (Int.toNat x2)) (orI .u32 (nthN xs ((0 : Nat) + (Int.toNat x2)) (dflt (.int .u32))) (wu32 (shrI .u64 (shrI .u64 (shlI .u64 (wu64 (nth x x2 (dflt (.int .u32)))) (32 : Int)) by_) (32 : Int))))) ((0 : Nat) + (Int.toNat (w64 (x2 - (1 : Int))))) (orI .u32 (nthN (List.set xs ((0 : Nat) + (Int.toNat x2)) (orI .u32 (nthN xs ((0 : Nat) + (Int.toNat x2)) (dflt (.int .u32))) (wu32 (shrI .u64 (shrI .u64 (shlI .u64 (wu64 (nth x x2 (dflt (.int .u32)))) (32 : Int)) by_) (32 : Int))))) ((0 : Nat) + (Int.toNat (w64 (x2 - (1 : Int))))) (dflt (.int .u32))) (wu32 (shrI .u64 (shlI .u64 (wu64 (nth x x2 (dflt (.int .u32)))) (32 : Int)) by_)))))) <|
            .obl ((List.length xs) = (List.length (List.set (List.set xs ((0 : Nat) + (Int.toNat x2)) (orI .u32 (nthN xs ((0 : Nat) + (Int.toNat x2)) (dflt (.int .u32))) (wu32 (shrI .u64 (shrI .u64 (shlI .u64 (wu64 (nth x x2 (dflt (.int .u32)))) (32 : Int)) by_) (32 : Int))))) ((0 : Nat) + (Int.toNat (w64 (x2 - (1 : Int))))) (orI .u32 (nthN (List.set xs ((0 : Nat) + (Int.toNat x2)) (orI .u32 (nthN xs ((0 : Nat) + (Int.toNat x2)) (dflt (.int .u32))) (wu32 (shrI .u64 (shrI .u64 (shlI .u64 (wu64 (nth x x2 (dflt (.int .u32)))) (32 : Int)) by_) (32 : Int))))) ((0 : Nat) + (Int.toNat (w64 (x2 - (1 : Int))))) (dflt (.int .u32))) (wu32 (shrI .u64 (shlI .u64 (wu64 (nth x x2 (dflt (.int .u32)))) (32 : Int)) by_)))))) <|
            .ret (.inl ((w64 (x2 + (1 : Int))), (List.set (List.set xs ((0 : Nat) + (Int.toNat x2)) (orI .u32 (nthN xs ((0 : Nat) + (Int.toNat x2)) (dflt (.int .u32))) (wu32 (shrI .u64 (shrI .u64 (shlI .u64 (wu64 (nth x x2 (dflt (.int .u32)))) (32 : Int)) by_) (32 : Int))))) ((0 : Nat) + (Int.toNat (w64 (x2 - (1 : Int))))) (orI .u32 (nthN (List.set xs ((0 : Nat) + (Int.toNat x2)) (orI .u32 (nthN xs ((0 : Nat) + (Int.toNat x2)) (dflt (.int .u32))) (wu32 (shrI .u64 (shrI .u64 (shlI .u64 (wu64 (nth x x2 (dflt (.int .u32)))) (32 : Int)) by_) (32 : Int))))) ((0 : Nat) + (Int.toNat (w64 (x2 - (1 : Int))))) (dflt (.int .u32))) (wu32 (shrI .u64 (shlI .u64 (wu64 (nth x x2 (dflt (.int .u32)))) (32 : Int)) by_)))))))
          (.obl (curOk (List.length xs) (0 : Nat) (List.length xs) (List.length (List.set xs ((0 : Nat) + (Int.toNat x2)) (orI .u32 (nthN xs ((0 : Nat) + (Int.toNat x2)) (dflt (.int .u32))) (wu32 (shrI .u64 (shrI .u64 (shlI .u64 (wu64 (nth x x2 (dflt (.int .u32)))) (32 : Int)) by_) (32 : Int))))))) <|
            .obl ((List.length xs) = (List.length (List.set xs ((0 : Nat) + (Int.toNat x2)) (orI .u32 (nthN xs ((0 : Nat) + (Int.toNat x2)) (dflt (.int .u32))) (wu32 (shrI .u64 (shrI .u64 (shlI .u64 (wu64 (nth x x2 (dflt (.int .u32)))) (32 : Int)) by_) (32 : Int))))))) <|
            .ret (.inl ((w64 (x2 + (1 : Int))), (List.set xs ((0 : Nat) + (Int.toNat x2)) (orI .u32 (nthN xs ((0 : Nat) + (Int.toNat x2)) (dflt (.int .u32))) (wu32 (shrI .u64 (shrI .u64 (shlI .u64 (wu64 (nth x x2 (dflt (.int .u32)))) (32 : Int)) by_) (32 : Int)))))))))
      (.obl (curOk (List.length xs) (0 : Nat) (List.length xs) (List.length xs)) <|
        .obl ((List.length xs) = (List.length xs)) <|
        .ret (.inr xs))
noncomputable def nat_Shift_L0 (by_ : Int) (x : (List Int)) (x1 : Int) (s : (Int × (List Int))) : T ((List Int)) := T.loop (nat_Shift_R0 by_ x x1) s
noncomputable def nat_Shift (a : (List Int)) (n : Int) : T (List Int) :=
  T.bind (nat_trim a) fun a1 =>
  .ite (decide ((minI (maxI n (-4096 : Int)) (4096 : Int)) < (0 : Int)))
    (.obl ((32 : Int) ≠ (0 : Int)) <|
      .ite (decide ((Nat.cast (List.length a1) : Int) ≤ (w64 (Int.tdiv (w64 ((0 : Int) - (minI (maxI n (-4096 : Int)) (4096 : Int)))) (32 : Int)))))
        (.ret ([] : List Int))
        (.obl ((32 : Int) ≠ (0 : Int)) <|
          .obl (mkOk (w64 ((Nat.cast (List.length a1) : Int) - (w64 (Int.tdiv (w64 ((0 : Int) - (minI (maxI n (-4096 : Int)) (4096 : Int)))) (32 : Int))))) (w64 ((Nat.cast (List.length a1) : Int) - (w64 (Int.tdiv (w64 ((0 : Int) - (minI (maxI n (-4096 : Int)) (4096 : Int)))) (32 : Int))))) (4 : Nat)) <|
          .obl (slOk (w64 (Int.tdiv (w64 ((0 : Int) - (minI (maxI n (-4096 : Int)) (4096 : Int)))) (32 : Int))) (Nat.cast (List.length a1) : Int) (List.length a1)) <|
          .obl (curOk (Int.toNat (w64 ((Nat.cast (List.length a1) : Int) - (w64 (Int.tdiv (w64 ((0 : Int) - (minI (maxI n (-4096 : Int)) (4096 : Int)))) (32 : Int)))))) (0 : Nat) (Int.toNat (w64 ((Nat.cast (List.length a1) : Int) - (w64 (Int.tdiv (w64 ((0 : Int) - (minI (maxI n (-4096 : Int)) (4096 : Int)))) (32 : Int)))))) (List.length (List.replicate (Int.toNat (w64 ((Nat.cast (List.length a1) : Int) - (w64 (Int.tdiv (w64 ((0 : Int) - (minI (maxI n (-4096 : Int)) (4096 : Int)))) (32 : Int)))))) (0 : Int)))) <|
          .obl ((Int.toNat (w64 ((Nat.cast (List.length a1) : Int) - (w64 (Int.tdiv (w64 ((0 : Int) - (minI (maxI n (-4096 : Int)) (4096 : Int)))) (32 : Int)))))) = (List.length (List.replicate (Int.toNat (w64 ((Nat.cast (List.length a1) : Int) - (w64 (Int.tdiv (w64 ((0 : Int) - (minI (maxI n (-4096 : Int)) (4096 : Int)))) (32 : Int)))))) (0 : Int)))) <|
          T.bind (nat_Shift_L0 (wu64 (Int.tmod (w64 ((0 : Int) - (minI (maxI n (-4096 : Int)) (4096 : Int)))) (32 : Int))) (cutL (e := (.int .u32)) (w64 (Int.tdiv (w64 ((0 : Int) - (minI (maxI n (-4096 : Int)) (4096 : Int)))) (32 : Int))) (Nat.cast (List.length a1) : Int) a1) (Nat.cast (List.length (cutL (e := (.int .u32)) (w64 (Int.tdiv (w64 ((0 : Int) - (minI (maxI n (-4096 : Int)) (4096 : Int)))) (32 : Int))) (Nat.cast (List.length a1) : Int) a1)) : Int) ((0 : Int), (List.replicate (Int.toNat (w64 ((Nat.cast (List.length a1) : Int) - (w64 (Int.tdiv (w64 ((0 : Int) - (minI (maxI n (-4096 : Int)) (4096 : Int)))) (32 : Int)))))) (0 : Int)))) fun xs1 =>
          .obl ((List.length xs1) = (List.length xs1)) <|
          T.bind (nat_trim (List.drop (0 : Nat) (List.take ((0 : Nat) + (List.length xs1)) xs1))) fun r =>
          .ret r))
    (.obl ((32 : Int) ≠ (0 : Int)) <|
      .obl (mkOk (w64 ((w64 ((w64 (Int.tdiv (minI (maxI n (-4096 : Int)) (4096 : Int)) (32 : Int))) + (Nat.cast (List.length a1) : Int))) + (1 : Int))) (w64 ((w64 ((w64 (Int.tdiv (minI (maxI n (-4096 : Int)) (4096 : Int)) (32 : Int))) + (Nat.cast (List.length a1) : Int))) + (1 : Int))) (4 : Nat)) <|
      .obl (slOk (w64 (Int.tdiv (minI (maxI n (-4096 : Int)) (4096 : Int)) (32 : Int))) (Nat.cast (Int.toNat (w64 ((w64 ((w64 (Int.tdiv (minI (maxI n (-4096 : Int)) (4096 : Int)) (32 : Int))) + (Nat.cast (List.length a1) : Int))) + (1 : Int)))) : Int) (Int.toNat (w64 ((w64 ((w64 (Int.tdiv (minI (maxI n (-4096 : Int)) (4096 : Int)) (32 : Int))) + (Nat.cast (List.length a1) : Int))) + (1 : Int))))) <|
      .obl ((32 : Int) ≠ (0 : Int)) <|
      T.bind (nat_left a1 (wu64 (Int.tmod (minI (maxI n (-4096 : Int)) (4096 : Int)) (32 : Int))) (w64 ((Nat.cast (List.length a1) : Int) + (1 : Int)))) fun r1 =>
      .obl (cpyOk (Int.toNat (w64 ((w64 ((w64 (Int.tdiv (minI (maxI n (-4096 : Int)) (4096 : Int)) (32 : Int))) + (Nat.cast (List.length a1) : Int))) + (1 : Int)))) (Int.toNat (w64 ((w64 ((w64 (Int.tdiv (minI (maxI n (-4096 : Int)) (4096 : Int)) (32 : Int))) + (Nat.cast (List.length a1) : Int))) + (1 : Int)))) ((0 : Nat) + (Int.toNat (w64 (Int.tdiv (minI (maxI n (-4096 : Int)) (4096 : Int)) (32 : Int))))) ((Int.toNat (Nat.cast (Int.toNat (w64 ((w64 ((w64 (Int.tdiv (minI (maxI n (-4096 : Int)) (4096 : Int)) (32 : Int))) + (Nat.cast (List.length a1) : Int))) + (1 : Int)))) : Int)) - (Int.toNat (w64 (Int.tdiv (minI (maxI n (-4096 : Int)) (4096 : Int)) (32 : Int))))) (List.length (List.replicate (Int.toNat (w64 ((w64 ((w64 (Int.tdiv (minI (maxI n (-4096 : Int)) (4096 : Int)) (32 : Int))) + (Nat.cast (List.length a1) : Int))) + (1 : Int)))) (0 : Int)))) <|
      .obl ((Int.toNat (w64 ((w64 ((w64 (Int.tdiv (minI (maxI n (-4096 : Int)) (4096 : Int)) (32 : Int))) + (Nat.cast (List.length a1) : Int))) + (1 : Int)))) = (Int.toNat (w64 ((w64 ((w64 (Int.tdiv (minI (maxI n (-4096 : Int)) (4096 : Int)) (32 : Int))) + (Nat.cast (List.length a1) : Int))) + (1 : Int))))) <|
      T.bind (nat_trim (List.drop (0 : Nat) (List.take ((0 : Nat) + (Int.toNat (w64 ((w64 ((w64 (Int.tdiv (minI (maxI n (-4096 : Int)) (4096 : Int)) (32 : Int))) + (Nat.cast (List.length a1) : Int))) + (1 : Int))))) (copyL ((0 : Nat) + (Int.toNat (w64 (Int.tdiv (minI (maxI n (-4096 : Int)) (4096 : Int)) (32 : Int))))) ((Int.toNat (Nat.cast (Int.toNat (w64 ((w64 ((w64 (Int.tdiv (minI (maxI n (-4096 : Int)) (4096 : Int)) (32 : Int))) + (Nat.cast (List.length a1) : Int))) + (1 : Int)))) : Int)) - (Int.toNat (w64 (Int.tdiv (minI (maxI n (-4096 : Int)) (4096 : Int)) (32 : Int))))) (List.replicate (Int.toNat (w64 ((w64 ((w64 (Int.tdiv (minI (maxI n (-4096 : Int)) (4096 : Int)) (32 : Int))) + (Nat.cast (List.length a1) : Int))) + (1 : Int)))) (0 : Int)) r1)))) fun r2 =>
      .ret r2)
/-- pantograph/nat.long -/
noncomputable def nat_long_R0 (by_ : Int) (d : (List Int)) (n : Int) : (Int × (List Int) × (List Int)) → T ((Int × (List Int) × (List Int)) ⊕ (((List Int) × (List Int))))
  | (i, xs2, xs3) =>
    .ite (decide ((0 : Int) ≤ i))
      (.obl (idxOk (w64 (i + n)) (List.length xs2)) <|
        .obl (eOk (List.length xs2) (List.length xs2) ((0 : Nat) + (Int.toNat (w64 (i + n)))) (List.length xs2)) <|
        .obl (idxOk (w64 ((w64 (i + n)) - (1 : Int))) (List.length xs2)) <|
        .obl (eOk (List.length xs2) (List.length xs2) ((0 : Nat) + (Int.toNat (w64 ((w64 (i + n)) - (1 : Int))))) (List.length xs2)) <|
        .obl (idxOk (w64 ((w64 (i + n)) - (2 : Int))) (List.length xs2)) <|
        .obl (eOk (List.length xs2) (List.length xs2) ((0 : Nat) + (Int.toNat (w64 ((w64 (i + n)) - (2 : Int))))) (List.length xs2)) <|
        .obl (idxOk (w64 (n - (1 : Int))) (List.length d)) <|
        .obl (idxOk (w64 (n - (2 : Int))) (List.length d)) <|
        T.bind (nat_guess (nthN xs2 ((0 : Nat) + (Int.toNat (w64 (i + n)))) (dflt (.int .u32))) (nthN xs2 ((0 : Nat) + (Int.toNat (w64 ((w64 (i + n)) - (1 : Int))))) (dflt (.int .u32))) (nthN xs2 ((0 : Nat) + (Int.toNat (w64 ((w64 (i + n)) - (2 : Int))))) (dflt (.int .u32))) (nth d (w64 (n - (1 : Int))) (dflt (.int .u32))) (nth d (w64 (n - (2 : Int))) (dflt (.int .u32)))) fun x =>
        T.bind (.obl (slOk i (w64 ((w64 (i + n)) + (1 : Int))) (List.length xs2)) <|
            .obl ((List.length xs2) = (List.length xs2)) <|
            .obl ((List.length xs2) = (List.length xs2)) <|
            T.bind (nat_takes_S (((0 : Nat) + (Int.toNat i)), ((Int.toNat (w64 ((w64 (i + n)) + (1 : Int)))) - (Int.toNat i))) d x xs2) fun (r1, u) =>
            .ite r1
              (.obl (curOk (List.length xs3) (0 : Nat) (List.length xs3) (List.length xs3)) <|
                .obl (curOk (List.length xs2) (0 : Nat) (List.length xs2) (List.length u)) <|
                .obl ((List.length u) = (List.length u)) <|
                .obl ((List.length xs3) = (List.length xs3)) <|
                .ret ((wu64 (x - (1 : Int))), (u, xs3)))
              (.obl (curOk (List.length xs3) (0 : Nat) (List.length xs3) (List.length xs3)) <|
                .obl (curOk (List.length xs2) (0 : Nat) (List.length xs2) (List.length u)) <|
                .obl ((List.length u) = (List.length u)) <|
                .obl ((List.length xs3) = (List.length xs3)) <|
                .ret (x, (u, xs3))) : T ((Int × (List Int) × (List Int)))) fun (x1, xs4, xs5) =>
        .obl (idxOk i (List.length xs5)) <|
        .obl (eOk (List.length xs5) (List.length xs5) ((0 : Nat) + (Int.toNat i)) (List.length xs5)) <|
        .obl (curOk (List.length xs5) (0 : Nat) (List.length xs5) (List.length (List.set xs5 ((0 : Nat) + (Int.toNat i)) (wu32 x1)))) <|
        .obl (curOk (List.length xs4) (0 : Nat) (List.length xs4) (List.length xs4)) <|
        .obl ((List.length xs4) = (List.length xs4)) <|
        .obl ((List.length xs5) = (List.length (List.set xs5 ((0 : Nat) + (Int.toNat i)) (wu32 x1)))) <|
        .ret (.inl ((w64 (i - (1 : Int))), (xs4, (List.set xs5 ((0 : Nat) + (Int.toNat i)) (wu32 x1))))))
      (.obl (curOk (List.length xs3) (0 : Nat) (List.length xs3) (List.length xs3)) <|
        .obl (curOk (List.length xs2) (0 : Nat) (List.length xs2) (List.length xs2)) <|
        .obl ((List.length xs2) = (List.length xs2)) <|
        .obl ((List.length xs3) = (List.length xs3)) <|
        .ret (.inr (xs2, xs3)))
noncomputable def nat_long_L0 (by_ : Int) (d : (List Int)) (n : Int) (s : (Int × (List Int) × (List Int))) : T (((List Int) × (List Int))) := T.loop (nat_long_R0 by_ d n) s
noncomputable def nat_long (a : (List Int)) (b : (List Int)) : T ((List Int) × (List Int)) :=
  .obl (idxOk (w64 ((Nat.cast (List.length b) : Int) - (1 : Int))) (List.length b)) <|
  T.bind (math_bits_LeadingZeros32 (nth b (w64 ((Nat.cast (List.length b) : Int) - (1 : Int))) (dflt (.int .u32)))) fun r =>
  T.bind (nat_left_S a (wu64 r) (w64 ((Nat.cast (List.length a) : Int) + (1 : Int)))) fun xs =>
  T.bind (nat_left_S b (wu64 r) (Nat.cast (List.length b) : Int)) fun xs1 =>
  .obl (mkOk (w64 ((w64 ((Nat.cast (List.length a) : Int) - (Nat.cast (List.length xs1) : Int))) + (1 : Int))) (w64 ((w64 ((Nat.cast (List.length a) : Int) - (Nat.cast (List.length xs1) : Int))) + (1 : Int))) (4 : Nat)) <|
  .obl ((List.length xs1) = (List.length xs1)) <|
  .obl (curOk (Int.toNat (w64 ((w64 ((Nat.cast (List.length a) : Int) - (Nat.cast (List.length xs1) : Int))) + (1 : Int)))) (0 : Nat) (Int.toNat (w64 ((w64 ((Nat.cast (List.length a) : Int) - (Nat.cast (List.length xs1) : Int))) + (1 : Int)))) (List.length (List.replicate (Int.toNat (w64 ((w64 ((Nat.cast (List.length a) : Int) - (Nat.cast (List.length xs1) : Int))) + (1 : Int)))) (0 : Int)))) <|
  .obl (curOk (List.length xs) (0 : Nat) (List.length xs) (List.length xs)) <|
  .obl ((List.length xs) = (List.length xs)) <|
  .obl ((Int.toNat (w64 ((w64 ((Nat.cast (List.length a) : Int) - (Nat.cast (List.length xs1) : Int))) + (1 : Int)))) = (List.length (List.replicate (Int.toNat (w64 ((w64 ((Nat.cast (List.length a) : Int) - (Nat.cast (List.length xs1) : Int))) + (1 : Int)))) (0 : Int)))) <|
  T.bind (nat_long_L0 (wu64 r) (List.drop (0 : Nat) (List.take ((0 : Nat) + (List.length xs1)) xs1)) (Nat.cast (List.length xs1) : Int) ((w64 ((Nat.cast (Int.toNat (w64 ((w64 ((Nat.cast (List.length a) : Int) - (Nat.cast (List.length xs1) : Int))) + (1 : Int)))) : Int) - (1 : Int))), (xs, (List.replicate (Int.toNat (w64 ((w64 ((Nat.cast (List.length a) : Int) - (Nat.cast (List.length xs1) : Int))) + (1 : Int)))) (0 : Int))))) fun (xs6, xs7) =>
  .obl ((List.length xs7) = (List.length xs7)) <|
  .obl ((List.length xs6) = (List.length xs6)) <|
  T.bind (nat_trim (List.drop (0 : Nat) (List.take ((0 : Nat) + (List.length xs7)) xs7))) fun q1 =>
  .obl (slOk (0 : Int) (Nat.cast (List.length xs1) : Int) (List.length (List.drop (0 : Nat) (List.take ((0 : Nat) + (List.length xs6)) xs6)))) <|
  T.bind (nat_Shift (cutL (e := (.int .u32)) (0 : Int) (Nat.cast (List.length xs1) : Int) (List.drop (0 : Nat) (List.take ((0 : Nat) + (List.length xs6)) xs6))) (w64 ((0 : Int) - (w64 (wu64 r))))) fun r2 =>
  .ret (q1, r2)
/-- pantograph/nat.DivMod -/
noncomputable def nat_DivMod (a : (List Int)) (b : (List Int)) : T ((List Int) × (List Int) × Bool) :=
  T.bind (nat_trim a) fun a1 =>
  T.bind (nat_trim b) fun b1 =>
  .ite ((Nat.cast (List.length b1) : Int) == (0 : Int))
    (.ret (([] : List Int), (([] : List Int), false)))
    (T.bind (nat_Cmp a1 b1) fun r =>
      .ite (decide (r < (0 : Int)))
        (T.bind (nat_Trim a1) fun r1 =>
          .ret (([] : List Int), (r1, true)))
        (.ite ((Nat.cast (List.length b1) : Int) == (1 : Int))
            (.obl (idxOk (0 : Int) (List.length b1)) <|
              T.bind (nat_small a1 (nth b1 (0 : Int) (dflt (.int .u32)))) fun (q, rest) =>
              T.bind (nat_Of (wu64 rest)) fun r2 =>
              .ret (q, (r2, true)))
            (T.bind (nat_long a1 b1) fun (q1, r3) =>
              .ret (q1, (r3, true)))))
/-- pantograph/nat.Gcd -/
noncomputable def nat_Gcd_R0  : ((List Int) × (List Int)) → T (((List Int) × (List Int)) ⊕ ((List Int)))
  | (a2, b2) =>
    .ite (decide ((0 : Int) < (Nat.cast (List.length b2) : Int)))
      (T.bind (nat_DivMod a2 b2) fun (r, r1, r2) =>
        .ret (.inl (b2, r1)))
      (.ret (.inr a2))
noncomputable def nat_Gcd_L0  (s : ((List Int) × (List Int))) : T ((List Int)) := T.loop (nat_Gcd_R0 ) s
noncomputable def nat_Gcd (a : (List Int)) (b : (List Int)) : T (List Int) :=
  T.bind (nat_Trim a) fun a1 =>
  T.bind (nat_Trim b) fun b1 =>
  T.bind (nat_Gcd_L0  (a1, b1)) fun a3 =>
  .ret a3
/-- pantograph/rat.Of -/
noncomputable def rat_Of (neg : Bool) (n : (List Int)) (d : (List Int)) : T Rat :=
  T.bind (nat_Trim n) fun n1 =>
  T.bind (nat_Trim d) fun d1 =>
  .ite (((Nat.cast (List.length n1) : Int) == (0 : Int)) || ((Nat.cast (List.length d1) : Int) == (0 : Int)))
    (T.bind (nat_Of (1 : Int)) fun r =>
      .ret (false, (([] : List Int), (r, ()))))
    (T.bind (nat_Gcd n1 d1) fun g =>
      T.bind (nat_DivMod n1 g) fun (n2, r1, r2) =>
      T.bind (nat_DivMod d1 g) fun (d2, r3, r4) =>
      .ret (neg, (n2, (d2, ()))))
/-- pantograph/rat.Norm -/
noncomputable def rat_Norm (a : Rat) : T Rat :=
  T.bind (rat_Of a.1 a.2.1 a.2.2.1) fun r =>
  .ret r
/-- pantograph/dec.sign -/
noncomputable def dec_sign (a : Rat) : T Str :=
  .ite a.1
    (.ret ([45] : Str))
    (.ret ([] : Str))
/-- slices.Reverse[[]byte,byte] -/
noncomputable def slices_Reverse_sl_byte_S_R0  : ((Nat × Nat) × Int × Int × (List Int)) → T (((Nat × Nat) × Int × Int × (List Int)) ⊕ ((List Int)))
  | (s1, i, j, xs) =>
    .ite (decide (i < j))
      (.obl (idxOk j s1.2) <|
        .obl (eOk (List.length xs) (List.length xs) (s1.1 + (Int.toNat j)) (List.length xs)) <|
        .obl (idxOk i s1.2) <|
        .obl (eOk (List.length xs) (List.length xs) (s1.1 + (Int.toNat i)) (List.length xs)) <|
        .obl (idxOk i s1.2) <|
        .obl (eOk (List.length xs) (List.length xs) (s1.1 + (Int.toNat i)) (List.length xs)) <|
        .obl (idxOk j s1.2) <|
        .obl (eOk (List.length xs) (List.length xs) (s1.1 + (Int.toNat j)) (List.length (List.set xs (s1.1 + (Int.toNat i)) (nthN xs (s1.1 + (Int.toNat j)) (dflt (.int .u8)))))) <|
        .obl ((List.length xs) = (List.length xs)) <|
        .obl ((List.length xs) = (List.length (List.set (List.set xs (s1.1 + (Int.toNat i)) (nthN xs (s1.1 + (Int.toNat j)) (dflt (.int .u8)))) (s1.1 + (Int.toNat j)) (nthN xs (s1.1 + (Int.toNat i)) (dflt (.int .u8)))))) <|
        .ret (.inl (s1, ((w64 (i + (1 : Int))), ((w64 (j - (1 : Int))), (List.set (List.set xs (s1.1 + (Int.toNat i)) (nthN xs (s1.1 + (Int.toNat j)) (dflt (.int .u8)))) (s1.1 + (Int.toNat j)) (nthN xs (s1.1 + (Int.toNat i)) (dflt (.int .u8)))))))))
      (.obl ((List.length xs) = (List.length xs)) <|
        .ret (.inr xs))
noncomputable def slices_Reverse_sl_byte_S_L0  (s : ((Nat × Nat) × Int × Int × (List Int))) : T ((List Int)) := T.loop (slices_Reverse_sl_byte_S_R0 ) s
noncomputable def slices_Reverse_sl_byte_S (sw : (Nat × Nat)) (s : (List Int)) : T (List Int) :=
  .obl ((List.length s) = (List.length s)) <|
  .obl ((List.length s) = (List.length s)) <|
  T.bind (slices_Reverse_sl_byte_S_L0  (sw, ((0 : Int), ((w64 ((Nat.cast sw.2 : Int) - (1 : Int))), s)))) fun xs1 =>
  .obl ((List.length xs1) = (List.length xs1)) <|
  .ret xs1
/-- pantograph/nat.Print -/
noncomputable def nat_Print_R1 (q1 : (List Int)) : (Int × Int × (List Int)) → T ((Int × Int × (List Int)) ⊕ ((List Int)))
  | (rest1, x, xs1) =>
    .ite (decide (x < (9 : Int)))
      (.obl ((10 : Int) ≠ (0 : Int)) <|
        .obl (idxOk (Int.tmod rest1 (10 : Int)) (List.length ([48, 49, 50, 51, 52, 53, 54, 55, 56, 57] : Str))) <|
        .obl (appOk (List.length xs1) (List.length xs1) (0 : Nat) (List.length xs1) (List.length xs1) (1 : Nat) (1 : Nat)) <|
        .obl ((10 : Int) ≠ (0 : Int)) <|
        .obl (curOk ((List.length xs1) + (1 : Nat)) (0 : Nat) ((List.length xs1) + (1 : Nat)) (List.length (xs1 ++ ([(byteAt ([48, 49, 50, 51, 52, 53, 54, 55, 56, 57] : Str) (Int.tmod rest1 (10 : Int)))] : List Int)))) <|
        .obl (((List.length xs1) + (1 : Nat)) = (List.length (xs1 ++ ([(byteAt ([48, 49, 50, 51, 52, 53, 54, 55, 56, 57] : Str) (Int.tmod rest1 (10 : Int)))] : List Int)))) <|
        .ret (.inl ((wu32 (Int.tdiv rest1 (10 : Int))), ((w64 (x + (1 : Int))), (xs1 ++ ([(byteAt ([48, 49, 50, 51, 52, 53, 54, 55, 56, 57] : Str) (Int.tmod rest1 (10 : Int)))] : List Int))))))
      (.obl (curOk (List.length xs1) (0 : Nat) (List.length xs1) (List.length xs1)) <|
        .obl ((List.length xs1) = (List.length xs1)) <|
        .ret (.inr xs1))
noncomputable def nat_Print_L1 (q1 : (List Int)) (s : (Int × Int × (List Int))) : T ((List Int)) := T.loop (nat_Print_R1 q1) s
noncomputable def nat_Print_R0  : ((List Int) × (List Int)) → T (((List Int) × (List Int)) ⊕ ((List Int)))
  | (a2, xs) =>
    .ite (decide ((0 : Int) < (Nat.cast (List.length a2) : Int)))
      (T.bind (nat_small a2 (1000000000 : Int)) fun (q, rest) =>
        .obl (curOk (List.length xs) (0 : Nat) (List.length xs) (List.length xs)) <|
        .obl ((List.length xs) = (List.length xs)) <|
        T.bind (nat_Print_L1 q (rest, ((0 : Int), xs))) fun xs2 =>
        .obl (curOk (List.length xs2) (0 : Nat) (List.length xs2) (List.length xs2)) <|
        .obl ((List.length xs2) = (List.length xs2)) <|
        .ret (.inl (q, xs2)))
      (.obl (curOk (List.length xs) (0 : Nat) (List.length xs) (List.length xs)) <|
        .obl ((List.length xs) = (List.length xs)) <|
        .ret (.inr xs))
noncomputable def nat_Print_L0  (s : ((List Int) × (List Int))) : T ((List Int)) := T.loop (nat_Print_R0 ) s
noncomputable def nat_Print_R2  : ((Nat × Nat) × (List Int)) → T (((Nat × Nat) × (List Int)) ⊕ (((Nat × Nat) × (List Int))))
  | (b, xs4) =>
    .obl (((decide ((1 : Int) < (Nat.cast b.2 : Int))) = true) → ((idxOk (w64 ((Nat.cast b.2 : Int) - (1 : Int))) b.2) ∧ (eOk (List.length xs4) (List.length xs4) (b.1 + (Int.toNat (w64 ((Nat.cast b.2 : Int) - (1 : Int))))) (List.length xs4)))) <|
    .ite ((decide ((1 : Int) < (Nat.cast b.2 : Int))) && ((nthN xs4 (b.1 + (Int.toNat (w64 ((Nat.cast b.2 : Int) - (1 : Int))))) (dflt (.int .u8))) == (48 : Int)))
      (.obl (slOk (0 : Int) (w64 ((Nat.cast b.2 : Int) - (1 : Int))) b.2) <|
        .obl ((List.length xs4) = (List.length xs4)) <|
        .obl ((List.length xs4) = (List.length xs4)) <|
        .ret (.inl (((b.1 + (Int.toNat (0 : Int))), ((Int.toNat (w64 ((Nat.cast b.2 : Int) - (1 : Int)))) - (Int.toNat (0 : Int)))), xs4)))
      (.obl ((List.length xs4) = (List.length xs4)) <|
        .obl ((List.length xs4) = (List.length xs4)) <|
        .ret (.inr (b, xs4)))
noncomputable def nat_Print_L2  (s : ((Nat × Nat) × (List Int))) : T (((Nat × Nat) × (List Int))) := T.loop (nat_Print_R2 ) s
noncomputable def nat_Print (a : (List Int)) : T Str :=
  T.bind (nat_Trim a) fun a1 =>
  .ite ((Nat.cast (List.length a1) : Int) == (0 : Int))
    (.ret ([48] : Str))
    (.obl (curOk (0 : Nat) (0 : Nat) (0 : Nat) (0 : Nat)) <|
      .obl ((0 : Nat) = (0 : Nat)) <|
      T.bind (nat_Print_L0  (a1, ([] : List Int))) fun xs3 =>
      .obl ((List.length xs3) = (List.length xs3)) <|
      .obl ((List.length xs3) = (List.length xs3)) <|
      T.bind (nat_Print_L2  (((0 : Nat), (List.length xs3)), xs3)) fun (b1, xs5) =>
      .obl ((List.length xs5) = (List.length xs5)) <|
      .obl ((List.length xs5) = (List.length xs5)) <|
      T.bind (slices_Reverse_sl_byte_S b1 xs5) fun b2 =>
      .obl ((List.length xs5) = (List.length b2)) <|
      .ret (bytesStr (List.drop b1.1 (List.take (b1.1 + b1.2) b2))))
/-- pantograph/dec.Print -/
noncomputable def dec_Print (a : Rat) : T Str :=
  T.bind (rat_Norm a) fun r =>
  T.bind (dec_sign r) fun r1 =>
  T.bind (nat_Print r.2.1) fun r2 =>
  .obl (((List.length r1) + (List.length r2)) ≤ (4611686018427387904 : Nat)) <|
  T.bind (nat_Of (1 : Int)) fun r3 =>
  T.bind (nat_Cmp r.2.2.1 r3) fun r4 =>
  .ite (r4 != (0 : Int))
    (T.bind (nat_Print r.2.2.1) fun r5 =>
      .obl (((List.length ([47] : Str)) + (List.length r5)) ≤ (4611686018427387904 : Nat)) <|
      .obl (((List.length (cat r1 r2)) + (List.length (cat ([47] : Str) r5))) ≤ (4611686018427387904 : Nat)) <|
      .ret (cat (cat r1 r2) (cat ([47] : Str) r5)))
    (.ret (cat r1 r2))
/-- pantograph/draft.row[pantograph/api.Rat] -/
noncomputable def draft_row_Rat_R0 (text : Rat → T Str) (x : (List Rat)) (x1 : Int) : (Str × Int) → T ((Str × Int) ⊕ (Str))
  | (word1, x2) =>
    .ite (decide (x2 < x1))
      (.obl (idxOk x2 (List.length x)) <|
        T.bind (text (nth x x2 (dflt tyRat))) fun r =>
        .obl (((List.length ([32] : Str)) + (List.length r)) ≤ (4611686018427387904 : Nat)) <|
        .obl (((List.length word1) + (List.length (cat ([32] : Str) r))) ≤ (4611686018427387904 : Nat)) <|
        .ret (.inl ((cat word1 (cat ([32] : Str) r)), (w64 (x2 + (1 : Int))))))
      (.ret (.inr word1))
noncomputable def draft_row_Rat_L0 (text : Rat → T Str) (x : (List Rat)) (x1 : Int) (s : (Str × Int)) : T (Str) := T.loop (draft_row_Rat_R0 text x x1) s
noncomputable def draft_row_Rat (word : Str) (l : (List Rat)) (text : Rat → T Str) : T Str :=
  T.bind (draft_row_Rat_L0 text l (Nat.cast (List.length l) : Int) (word, (0 : Int))) fun word2 =>
  .obl (((List.length word2) + (List.length ([10] : Str))) ≤ (4611686018427387904 : Nat)) <|
  .ret (cat word2 ([10] : Str))
/-- pantograph/draft.row[bool] -/
noncomputable def draft_row_bool_R0 (text : Bool → T Str) (x : (List Bool)) (x1 : Int) : (Str × Int) → T ((Str × Int) ⊕ (Str))
  | (word1, x2) =>
    .ite (decide (x2 < x1))
      (.obl (idxOk x2 (List.length x)) <|
        T.bind (text (nth x x2 (dflt .bool))) fun r =>
        .obl (((List.length ([32] : Str)) + (List.length r)) ≤ (4611686018427387904 : Nat)) <|
        .obl (((List.length word1) + (List.length (cat ([32] : Str) r))) ≤ (4611686018427387904 : Nat)) <|
        .ret (.inl ((cat word1 (cat ([32] : Str) r)), (w64 (x2 + (1 : Int))))))
      (.ret (.inr word1))
noncomputable def draft_row_bool_L0 (text : Bool → T Str) (x : (List Bool)) (x1 : Int) (s : (Str × Int)) : T (Str) := T.loop (draft_row_bool_R0 text x x1) s
noncomputable def draft_row_bool (word : Str) (l : (List Bool)) (text : Bool → T Str) : T Str :=
  T.bind (draft_row_bool_L0 text l (Nat.cast (List.length l) : Int) (word, (0 : Int))) fun word2 =>
  .obl (((List.length word2) + (List.length ([10] : Str))) ≤ (4611686018427387904 : Nat)) <|
  .ret (cat word2 ([10] : Str))
/-- pantograph/draft.out -/
noncomputable def draft_out (n : Int) : T Str :=
  .ite (decide (n < (0 : Int)))
    (.ret ([45] : Str))
    (T.bind (strconv_Itoa n) fun r =>
      .ret r)
/-- pantograph/draft.row[int] -/
noncomputable def draft_row_int_R0 (text : Int → T Str) (x : (List Int)) (x1 : Int) : (Str × Int) → T ((Str × Int) ⊕ (Str))
  | (word1, x2) =>
    .ite (decide (x2 < x1))
      (.obl (idxOk x2 (List.length x)) <|
        T.bind (text (nth x x2 (dflt (.int .i64)))) fun r =>
        .obl (((List.length ([32] : Str)) + (List.length r)) ≤ (4611686018427387904 : Nat)) <|
        .obl (((List.length word1) + (List.length (cat ([32] : Str) r))) ≤ (4611686018427387904 : Nat)) <|
        .ret (.inl ((cat word1 (cat ([32] : Str) r)), (w64 (x2 + (1 : Int))))))
      (.ret (.inr word1))
noncomputable def draft_row_int_L0 (text : Int → T Str) (x : (List Int)) (x1 : Int) (s : (Str × Int)) : T (Str) := T.loop (draft_row_int_R0 text x x1) s
noncomputable def draft_row_int (word : Str) (l : (List Int)) (text : Int → T Str) : T Str :=
  T.bind (draft_row_int_L0 text l (Nat.cast (List.length l) : Int) (word, (0 : Int))) fun word2 =>
  .obl (((List.length word2) + (List.length ([10] : Str))) ≤ (4611686018427387904 : Nat)) <|
  .ret (cat word2 ([10] : Str))
/-- pantograph/draft.pin -/
noncomputable def draft_pin (p : doc_Pin) : T Str :=
  .ite (!p.1)
    (.ret ([45] : Str))
    (.ite p.2.1
        (T.bind (dec_Print p.2.2.1) fun r =>
          .obl (((List.length r) + (List.length ([33] : Str))) ≤ (4611686018427387904 : Nat)) <|
          .ret (cat r ([33] : Str)))
        (T.bind (dec_Print p.2.2.1) fun r1 =>
          .ret r1))
/-- pantograph/draft.row[pantograph/doc.Pin] -/
noncomputable def draft_row_doc_Pin_R0 (text : doc_Pin → T Str) (x : (List doc_Pin)) (x1 : Int) : (Str × Int) → T ((Str × Int) ⊕ (Str))
  | (word1, x2) =>
    .ite (decide (x2 < x1))
      (.obl (idxOk x2 (List.length x)) <|
        T.bind (text (nth x x2 (dflt tydoc_Pin))) fun r =>
        .obl (((List.length ([32] : Str)) + (List.length r)) ≤ (4611686018427387904 : Nat)) <|
        .obl (((List.length word1) + (List.length (cat ([32] : Str) r))) ≤ (4611686018427387904 : Nat)) <|
        .ret (.inl ((cat word1 (cat ([32] : Str) r)), (w64 (x2 + (1 : Int))))))
      (.ret (.inr word1))
noncomputable def draft_row_doc_Pin_L0 (text : doc_Pin → T Str) (x : (List doc_Pin)) (x1 : Int) (s : (Str × Int)) : T (Str) := T.loop (draft_row_doc_Pin_R0 text x x1) s
noncomputable def draft_row_doc_Pin (word : Str) (l : (List doc_Pin)) (text : doc_Pin → T Str) : T Str :=
  T.bind (draft_row_doc_Pin_L0 text l (Nat.cast (List.length l) : Int) (word, (0 : Int))) fun word2 =>
  .obl (((List.length word2) + (List.length ([10] : Str))) ≤ (4611686018427387904 : Nat)) <|
  .ret (cat word2 ([10] : Str))
/-- pantograph/draft.Print -/
noncomputable def draft_Print (d : doc_Doc) : T Str :=
  T.bind (draft_row_Rat ([112, 97, 114, 97, 109, 115] : Str) d.1 (fun z0 => dec_Print z0)) fun r =>
  T.bind (draft_row_bool ([111, 110] : Str) d.2.1 (fun z0 => draft_yes z0)) fun r1 =>
  .obl (((List.length r) + (List.length r1)) ≤ (4611686018427387904 : Nat)) <|
  T.bind (draft_row_Rat ([118, 97, 108, 115] : Str) d.2.2.1 (fun z0 => dec_Print z0)) fun r2 =>
  .obl (((List.length (cat r r1)) + (List.length r2)) ≤ (4611686018427387904 : Nat)) <|
  T.bind (draft_row_int ([111, 117, 116, 115] : Str) d.2.2.2.1 (fun z0 => draft_out z0)) fun r3 =>
  .obl (((List.length (cat (cat r r1) r2)) + (List.length r3)) ≤ (4611686018427387904 : Nat)) <|
  T.bind (draft_row_doc_Pin ([112, 105, 110, 115] : Str) d.2.2.2.2.1 (fun z0 => draft_pin z0)) fun r4 =>
  .obl (((List.length (cat (cat (cat r r1) r2) r3)) + (List.length r4)) ≤ (4611686018427387904 : Nat)) <|
  T.bind (draft_row_bool ([102, 105, 108, 108, 101, 100] : Str) d.2.2.2.2.2.1 (fun z0 => draft_yes z0)) fun r5 =>
  .obl (((List.length (cat (cat (cat (cat r r1) r2) r3) r4)) + (List.length r5)) ≤ (4611686018427387904 : Nat)) <|
  .obl (((List.length (cat (cat (cat (cat (cat r r1) r2) r3) r4) r5)) + (List.length ([101, 110, 100, 10] : Str))) ≤ (4611686018427387904 : Nat)) <|
  .ret (cat (cat (cat (cat (cat (cat r r1) r2) r3) r4) r5) ([101, 110, 100, 10] : Str))
/-- pantograph/pantographlaw20.known -/
noncomputable def law20_known  : T Bool :=
  T.bind (draft_Print (([] : List Rat), (([] : List Bool), (([] : List Rat), (([] : List Int), (([] : List doc_Pin), (([] : List Bool), ()))))))) fun r =>
  .ret (strEq r ([112, 97, 114, 97, 109, 115, 10, 111, 110, 10, 118, 97, 108, 115, 10, 111, 117, 116, 115, 10, 112, 105, 110, 115, 10, 102, 105, 108, 108, 101, 100, 10, 101, 110, 100, 10] : Str))
/-- pantograph/pantographlaw20.DraftSaves -/
noncomputable def law20_DraftSaves (d : draft_Draft) : T Bool :=
  T.bind (law20_long d) fun r =>
  .ite r
    (.ret true)
    (T.bind (draft_Save d) fun r1 =>
      T.bind (law20_own d) fun r2 =>
      T.bind (ref20_Save r2) fun r3 =>
      .ite (strEq r1 r3)
        (T.bind (law20_known) fun r4 =>
          .ret r4)
        (.ret false))
end Go.AM.Lf
