/-
  The program's functions as trees in plain Lean, part 0: printed by a program of ours.
-/
import Derived.Test.YtbheldlkbfcjdaaAmA
set_option linter.unusedVariables false
namespace Go.AM.Lf
abbrev tyruntime_boundsError : Ty := (.cons (.int .i64) (.cons (.int .i64) (.cons .bool (.cons (.int .u8) .nil))))
abbrev runtime_boundsError := den tyruntime_boundsError
abbrev tyruntime_errorAddressString : Ty := (.cons .str (.cons (.int .u64) .nil))
abbrev runtime_errorAddressString := den tyruntime_errorAddressString
abbrev tySwitch : Ty := (.cons .str (.cons .bool .nil))
abbrev Switch := den tySwitch
abbrev tyRat : Ty := (.cons .bool (.cons (.sl (.int .u32)) (.cons (.sl (.int .u32)) .nil)))
abbrev Rat := den tyRat
abbrev tyParam : Ty := (.cons .str (.cons tyRat .nil))
abbrev Param := den tyParam
abbrev tyPage : Ty := (.cons .str (.cons .str .nil))
abbrev Page := den tyPage
abbrev tyField : Ty := (.cons .str (.cons (.int .i64) (.cons .bool (.cons (.int .i64) .nil))))
abbrev Field := den tyField
abbrev tyRule : Ty := (.cons .str (.cons (.int .i64) (.cons .str (.cons .expr (.cons .expr .nil)))))
abbrev Rule := den tyRule
abbrev tyCheck : Ty := (.cons .str (.cons (.int .i64) (.cons (.int .i64) (.cons .expr (.cons .expr .nil)))))
abbrev Check := den tyCheck
abbrev tyForm : Ty := (.cons (.sl tySwitch) (.cons (.sl tyParam) (.cons (.sl tyPage) (.cons (.sl tyField) (.cons (.sl tyRule) (.cons (.sl tyCheck) .nil))))))
abbrev Form := den tyForm
/-- pantograph/pantographlaw18.long -/
noncomputable def law18_long_R0 (f1 : Form) : (Int × Int) → T ((Int × Int) ⊕ (Int))
  | (n, i) =>
    .ite (decide (i < (Nat.cast (List.length f1.2.2.1) : Int)))
      (.obl (idxOk i (List.length f1.2.2.1)) <|
        .obl (idxOk i (List.length f1.2.2.1)) <|
        .ret (.inl ((w64 ((w64 ((w64 (n + (1 : Int))) + (Nat.cast (List.length (nth f1.2.2.1 i (dflt tyPage)).1) : Int))) + (Nat.cast (List.length (nth f1.2.2.1 i (dflt tyPage)).2.1) : Int))), (w64 (i + (1 : Int))))))
      (.ret (.inr n))
noncomputable def law18_long_L0 (f1 : Form) (s : (Int × Int)) : T (Int) := T.loop (law18_long_R0 f1) s
noncomputable def law18_long_R1 (f2 : Form) : (Int × Int) → T ((Int × Int) ⊕ (Int))
  | (n2, i1) =>
    .ite (decide (i1 < (Nat.cast (List.length f2.1) : Int)))
      (.obl (idxOk i1 (List.length f2.1)) <|
        .ret (.inl ((w64 ((w64 (n2 + (1 : Int))) + (Nat.cast (List.length (nth f2.1 i1 (dflt tySwitch)).1) : Int))), (w64 (i1 + (1 : Int))))))
      (.ret (.inr n2))
noncomputable def law18_long_L1 (f2 : Form) (s : (Int × Int)) : T (Int) := T.loop (law18_long_R1 f2) s
noncomputable def law18_long (f : Form) : T Bool :=
  T.bind (law18_long_L0 f ((0 : Int), (0 : Int))) fun n1 =>
  T.bind (law18_long_L1 f (n1, (0 : Int))) fun n3 =>
  .ret (decide ((1500 : Int) < n3))
/-- pantograph/page.Relevant$1 -/
noncomputable def page_Relevant_f1 (s : Switch) (c1 : Page) : T Bool :=
  .ret (strEq s.1 c1.2.1)
/-- slices.IndexFunc[[]pantograph/api.Switch,pantograph/api.Switch] -/
noncomputable def slices_IndexFunc_sl_Switch_R0 (s1 : (List Switch)) (f : Switch → T Bool) (x : Int) : Int → T (Int ⊕ (Unit ⊕ Int))
  | x1 =>
    .ite (decide (x1 < x))
      (.obl (idxOk x1 (List.length s1)) <|
        T.bind (f (nth s1 x1 (dflt tySwitch))) fun r =>
        .ite r
          (.ret (.inr (.inr x1)))
          (.ret (.inl (w64 (x1 + (1 : Int))))))
      (.ret (.inr (.inl ())))
noncomputable def slices_IndexFunc_sl_Switch_L0 (s1 : (List Switch)) (f : Switch → T Bool) (x : Int) (s : Int) : T (Unit ⊕ Int) := T.loop (slices_IndexFunc_sl_Switch_R0 s1 f x) s
noncomputable def slices_IndexFunc_sl_Switch (s : (List Switch)) (f : Switch → T Bool) : T Int :=
  T.bind (slices_IndexFunc_sl_Switch_L0 s f (Nat.cast (List.length s) : Int) (0 : Int)) <|
    Sum.elim (fun _ =>
      .ret (-1 : Int))
    (fun x2 =>
      .ret x2)
/-- pantograph/page.Relevant -/
noncomputable def page_Relevant_R0 (on1 : (List Bool)) (f1 : Form) (x : (List Page)) (x1 : Int) : (Int × (List Bool)) → T ((Int × (List Bool)) ⊕ ((List Bool)))
  | (x2, xs) =>
    .ite (decide (x2 < x1))
      (.obl (idxOk x2 (List.length x)) <|
        T.bind (slices_IndexFunc_sl_Switch f1.1 (fun z0 => page_Relevant_f1 z0 (nth x x2 (dflt tyPage)))) fun i =>
        .ite (strEq (nth x x2 (dflt tyPage)).2.1 ([] : Str))
          (.obl (appOk (List.length xs) (List.length xs) (0 : Nat) (List.length xs) (List.length xs) (1 : Nat) (1 : Nat)) <|
            .obl (curOk ((List.length xs) + (1 : Nat)) (0 : Nat) ((List.length xs) + (1 : Nat)) (List.length (xs ++ ([true] : List Bool)))) <|
            .obl (((List.length xs) + (1 : Nat)) = (List.length (xs ++ ([true] : List Bool)))) <|
            .ret (.inl ((w64 (x2 + (1 : Int))), (xs ++ ([true] : List Bool)))))
          (.ite (decide ((0 : Int) ≤ i))
              (.ite (decide (i < (Nat.cast (List.length on1) : Int)))
                  (.obl (idxOk i (List.length on1)) <|
                    .obl (appOk (List.length xs) (List.length xs) (0 : Nat) (List.length xs) (List.length xs) (1 : Nat) (1 : Nat)) <|
                    .obl (curOk ((List.length xs) + (1 : Nat)) (0 : Nat) ((List.length xs) + (1 : Nat)) (List.length (xs ++ ([(nth on1 i (dflt .bool))] : List Bool)))) <|
                    .obl (((List.length xs) + (1 : Nat)) = (List.length (xs ++ ([(nth on1 i (dflt .bool))] : List Bool)))) <|
                    .ret (.inl ((w64 (x2 + (1 : Int))), (xs ++ ([(nth on1 i (dflt .bool))] : List Bool)))))
                  (.obl (appOk (List.length xs) (List.length xs) (0 : Nat) (List.length xs) (List.length xs) (1 : Nat) (1 : Nat)) <|
                    .obl (curOk ((List.length xs) + (1 : Nat)) (0 : Nat) ((List.length xs) + (1 : Nat)) (List.length (xs ++ ([false] : List Bool)))) <|
                    .obl (((List.length xs) + (1 : Nat)) = (List.length (xs ++ ([false] : List Bool)))) <|
                    .ret (.inl ((w64 (x2 + (1 : Int))), (xs ++ ([false] : List Bool))))))
              (.obl (appOk (List.length xs) (List.length xs) (0 : Nat) (List.length xs) (List.length xs) (1 : Nat) (1 : Nat)) <|
                .obl (curOk ((List.length xs) + (1 : Nat)) (0 : Nat) ((List.length xs) + (1 : Nat)) (List.length (xs ++ ([false] : List Bool)))) <|
                .obl (((List.length xs) + (1 : Nat)) = (List.length (xs ++ ([false] : List Bool)))) <|
                .ret (.inl ((w64 (x2 + (1 : Int))), (xs ++ ([false] : List Bool)))))))
      (.obl (curOk (List.length xs) (0 : Nat) (List.length xs) (List.length xs)) <|
        .obl ((List.length xs) = (List.length xs)) <|
        .ret (.inr xs))
noncomputable def page_Relevant_L0 (on1 : (List Bool)) (f1 : Form) (x : (List Page)) (x1 : Int) (s : (Int × (List Bool))) : T ((List Bool)) := T.loop (page_Relevant_R0 on1 f1 x x1) s
noncomputable def page_Relevant (f : Form) (on : (List Bool)) : T (List Bool) :=
  .obl (curOk (0 : Nat) (0 : Nat) (0 : Nat) (0 : Nat)) <|
  .obl ((0 : Nat) = (0 : Nat)) <|
  T.bind (page_Relevant_L0 on f f.2.2.1 (Nat.cast (List.length f.2.2.1) : Int) ((0 : Int), ([] : List Bool))) fun xs1 =>
  .obl ((List.length xs1) = (List.length xs1)) <|
  .ret (List.drop (0 : Nat) (List.take ((0 : Nat) + (List.length xs1)) xs1))
/-- pantograph/page.Next -/
noncomputable def page_Next_R0 (at_1 : Int) (x : (List Bool)) (x1 : Int) : Int → T (Int ⊕ (Unit ⊕ (Int × Bool)))
  | x2 =>
    .ite (decide (x2 < x1))
      (.obl (idxOk x2 (List.length x)) <|
        .ite ((nth x x2 (dflt .bool)) && (decide (at_1 < x2)))
          (.ret (.inr (.inr (x2, true))))
          (.ret (.inl (w64 (x2 + (1 : Int))))))
      (.ret (.inr (.inl ())))
noncomputable def page_Next_L0 (at_1 : Int) (x : (List Bool)) (x1 : Int) (s : Int) : T (Unit ⊕ (Int × Bool)) := T.loop (page_Next_R0 at_1 x x1) s
noncomputable def page_Next (f : Form) (on : (List Bool)) (at_ : Int) : T (Int × Bool) :=
  T.bind (page_Relevant f on) fun r =>
  T.bind (page_Next_L0 at_ r (Nat.cast (List.length r) : Int) (0 : Int)) <|
    Sum.elim (fun _ =>
      .ret (at_, false))
    (fun (x3, x4) =>
      .ret (x3, x4))
/-- pantograph/pantographlaw18.known -/
noncomputable def law18_known  : T Bool :=
  T.bind (page_Next (([(([115] : Str), (false, ()))] : List Switch), (([] : List Param), (([(([97] : Str), (([] : Str), ())), (([98] : Str), (([115] : Str), ())), (([99] : Str), (([] : Str), ()))] : List Page), (([] : List Field), (([] : List Rule), (([] : List Check), ())))))) ([false] : List Bool) (0 : Int)) fun (n, ok) =>
  T.bind (page_Next (([(([115] : Str), (false, ()))] : List Switch), (([] : List Param), (([(([97] : Str), (([] : Str), ())), (([98] : Str), (([115] : Str), ())), (([99] : Str), (([] : Str), ()))] : List Page), (([] : List Field), (([] : List Rule), (([] : List Check), ())))))) ([true] : List Bool) (0 : Int)) fun (m, is) =>
  .ret (ok && ((n == (2 : Int)) && (is && (m == (1 : Int)))))
/-- pantograph/pantographlaw18.PageAll -/
noncomputable def law18_PageAll_R0 (on1 : (List Bool)) (f1 : Form) (r2 : (List Bool)) (met : Int) : (Int × Int) → T ((Int × Int) ⊕ (Int))
  | (want, i) =>
    .ite (decide (i < (Nat.cast (List.length r2) : Int)))
      (.obl (idxOk i (List.length r2)) <|
        .ite (nth r2 i (dflt .bool))
          (.ret (.inl ((w64 (want + (1 : Int))), (w64 (i + (1 : Int))))))
          (.ret (.inl (want, (w64 (i + (1 : Int)))))))
      (.ret (.inr want))
noncomputable def law18_PageAll_L0 (on1 : (List Bool)) (f1 : Form) (r2 : (List Bool)) (met : Int) (s : (Int × Int)) : T (Int) := T.loop (law18_PageAll_R0 on1 f1 r2 met) s
noncomputable def law18_PageAll_R1 (on2 : (List Bool)) (f2 : Form) (r3 : (List Bool)) (want2 : Int) : (Int × Int) → T ((Int × Int) ⊕ (Int ⊕ Bool))
  | (met1, at_) =>
    .ite (decide (met1 ≤ (Nat.cast (List.length r3) : Int)))
      (T.bind (page_Next f2 on2 at_) fun (n, ok) =>
        .ite (!ok)
          (.ret (.inr (.inl met1)))
          (.obl (((decide (n ≤ at_)) = false) → (((decide ((Nat.cast (List.length r3) : Int) ≤ n)) = false) → (idxOk n (List.length r3)))) <|
            .ite ((decide (n ≤ at_)) || ((decide ((Nat.cast (List.length r3) : Int) ≤ n)) || (!(nth r3 n (dflt .bool)))))
              (.ret (.inr (.inr false)))
              (.ret (.inl ((w64 (met1 + (1 : Int))), n)))))
      (.ret (.inr (.inl met1)))
noncomputable def law18_PageAll_L1 (on2 : (List Bool)) (f2 : Form) (r3 : (List Bool)) (want2 : Int) (s : (Int × Int)) : T (Int ⊕ Bool) := T.loop (law18_PageAll_R1 on2 f2 r3 want2) s
noncomputable def law18_PageAll (f : Form) (on : (List Bool)) : T Bool :=
  T.bind (T.bind (law18_long f) fun r =>
      .ite r
        (.ret true)
        (.ret (decide ((100 : Int) < (Nat.cast (List.length on) : Int)))) : T (Bool)) fun x =>
  .ite x
    (.ret true)
    (T.bind (page_Relevant f on) fun r1 =>
      T.bind (law18_PageAll_L0 on f r1 (0 : Int) ((0 : Int), (0 : Int))) fun want1 =>
      T.bind (law18_PageAll_L1 on f r1 want1 ((0 : Int), (-1 : Int))) <|
        Sum.elim (fun met2 =>
          .ite (met2 == want1)
            (T.bind (law18_known) fun r4 =>
              .ret r4)
            (.ret false))
        (fun x1 =>
          .ret x1))
/-- pantograph/page.Back -/
def backOf (l : List Bool) (at_ : Int) : Nat → Int × Bool
  | 0 => (at_, false)
  | k + 1 => if l[k]?.getD false = true ∧ (k : Int) < at_ then ((k : Int), true) else backOf l at_ k
noncomputable def page_Back (f : Form) (on : (List Bool)) (at_ : Int) : T (Int × Bool) :=
  T.bind (page_Relevant f on) fun l => .obl (l.length * 8 ≤ 140737488351232) (.ret (backOf l at_ l.length))
/-- pantograph/page.Fix -/
noncomputable def page_Fix (f : Form) (on : (List Bool)) (at_ : Int) : T Int :=
  T.bind (page_Relevant f on) fun l =>
  .obl (((decide ((0 : Int) ≤ at_)) = true) → (((decide (at_ < (Nat.cast (List.length l) : Int))) = true) → (idxOk at_ (List.length l)))) <|
  .ite ((decide ((0 : Int) ≤ at_)) && ((decide (at_ < (Nat.cast (List.length l) : Int))) && (nth l at_ (dflt .bool))))
    (.ret at_)
    (T.bind (page_Back f on at_) fun (i, ok) =>
      .ite ok
        (.ret i)
        (T.bind (page_Next f on at_) fun (i1, ok1) =>
          .ite ok1
            (.ret i1)
            (.ret (0 : Int))))
/-- pantograph/pantographlaw18.PageBack -/
noncomputable def law18_PageBack (f : Form) (on : (List Bool)) (at_ : Int) : T Bool :=
  T.bind (T.bind (law18_long f) fun r =>
      .ite r
        (.ret true)
        (.ret (decide ((100 : Int) < (Nat.cast (List.length on) : Int)))) : T (Bool)) fun x =>
  .ite x
    (.ret true)
    (T.bind (page_Relevant f on) fun r1 =>
      .obl (((decide (at_ < (0 : Int))) = false) → (((decide ((Nat.cast (List.length r1) : Int) ≤ at_)) = false) → (idxOk at_ (List.length r1)))) <|
      .ite ((decide (at_ < (0 : Int))) || ((decide ((Nat.cast (List.length r1) : Int) ≤ at_)) || (!(nth r1 at_ (dflt .bool)))))
        (.ite ((Nat.cast (List.length r1) : Int) == (Nat.cast (List.length f.2.2.1) : Int))
            (T.bind (law18_known) fun r2 =>
              .ret r2)
            (.ret false))
        (T.bind (page_Next f on at_) fun (n, ok) =>
          T.bind (.ite ok
                (T.bind (page_Back f on n) fun (b, is) =>
                  .obl (((!is) = false) → (((b != at_) = false) → (((decide (n ≤ at_)) = false) → (((decide ((Nat.cast (List.length r1) : Int) ≤ n)) = false) → (idxOk n (List.length r1)))))) <|
                  .ite ((!is) || ((b != at_) || ((decide (n ≤ at_)) || ((decide ((Nat.cast (List.length r1) : Int) ≤ n)) || (!(nth r1 n (dflt .bool)))))))
                    (.ret (.inr false))
                    (.ret (.inl ())))
                (.ret (.inl ())) : T (Unit ⊕ Bool)) <|
            Sum.elim (fun _ =>
              T.bind (page_Fix f on at_) fun r3 =>
              .ite (r3 == at_)
                (.ite ok
                    (T.bind (law18_known) fun r4 =>
                      .ret r4)
                    (.ite (n == at_)
                        (T.bind (law18_known) fun r5 =>
                          .ret r5)
                        (.ret false)))
                (.ret false))
            (fun x1 =>
              .ret x1)))
/-- pantograph/pantographref18.on -/
noncomputable def ref18_on_R0 (l1 : (List Bool)) (name1 : Str) (f1 : Form) : Int → T (Int ⊕ (Unit ⊕ Bool))
  | i =>
    .ite (decide (i < (Nat.cast (List.length f1.1) : Int)))
      (.obl (idxOk i (List.length f1.1)) <|
        .ite (strEq (nth f1.1 i (dflt tySwitch)).1 name1)
          (.obl (((decide (i < (Nat.cast (List.length l1) : Int))) = true) → (idxOk i (List.length l1))) <|
            .ret (.inr (.inr ((decide (i < (Nat.cast (List.length l1) : Int))) && (nth l1 i (dflt .bool))))))
          (.ret (.inl (w64 (i + (1 : Int))))))
      (.ret (.inr (.inl ())))
noncomputable def ref18_on_L0 (l1 : (List Bool)) (name1 : Str) (f1 : Form) (s : Int) : T (Unit ⊕ Bool) := T.loop (ref18_on_R0 l1 name1 f1) s
noncomputable def ref18_on (f : Form) (l : (List Bool)) (name : Str) : T Bool :=
  T.bind (ref18_on_L0 l name f (0 : Int)) <|
    Sum.elim (fun _ =>
      .ret false)
    (fun x =>
      .ret x)
/-- pantograph/pantographref18.Relevant -/
noncomputable def ref18_Relevant_R0 (l1 : (List Bool)) (f1 : Form) : (Int × (List Bool)) → T ((Int × (List Bool)) ⊕ ((List Bool)))
  | (i, xs) =>
    .ite (decide (i < (Nat.cast (List.length f1.2.2.1) : Int)))
      (.obl (idxOk i (List.length f1.2.2.1)) <|
        .ite (strEq (nth f1.2.2.1 i (dflt tyPage)).2.1 ([] : Str))
          (.obl (appOk (List.length xs) (List.length xs) (0 : Nat) (List.length xs) (List.length xs) (1 : Nat) (1 : Nat)) <|
            .obl (curOk ((List.length xs) + (1 : Nat)) (0 : Nat) ((List.length xs) + (1 : Nat)) (List.length (xs ++ ([true] : List Bool)))) <|
            .obl (((List.length xs) + (1 : Nat)) = (List.length (xs ++ ([true] : List Bool)))) <|
            .ret (.inl ((w64 (i + (1 : Int))), (xs ++ ([true] : List Bool)))))
          (T.bind (ref18_on f1 l1 (nth f1.2.2.1 i (dflt tyPage)).2.1) fun r =>
            .obl (appOk (List.length xs) (List.length xs) (0 : Nat) (List.length xs) (List.length xs) (1 : Nat) (1 : Nat)) <|
            .obl (curOk ((List.length xs) + (1 : Nat)) (0 : Nat) ((List.length xs) + (1 : Nat)) (List.length (xs ++ ([r] : List Bool)))) <|
            .obl (((List.length xs) + (1 : Nat)) = (List.length (xs ++ ([r] : List Bool)))) <|
            .ret (.inl ((w64 (i + (1 : Int))), (xs ++ ([r] : List Bool))))))
      (.obl (curOk (List.length xs) (0 : Nat) (List.length xs) (List.length xs)) <|
        .obl ((List.length xs) = (List.length xs)) <|
        .ret (.inr xs))
noncomputable def ref18_Relevant_L0 (l1 : (List Bool)) (f1 : Form) (s : (Int × (List Bool))) : T ((List Bool)) := T.loop (ref18_Relevant_R0 l1 f1) s
noncomputable def ref18_Relevant (f : Form) (l : (List Bool)) : T (List Bool) :=
  .obl (curOk (0 : Nat) (0 : Nat) (0 : Nat) (0 : Nat)) <|
  .obl ((0 : Nat) = (0 : Nat)) <|
  T.bind (ref18_Relevant_L0 l f ((0 : Int), ([] : List Bool))) fun xs1 =>
  .obl ((List.length xs1) = (List.length xs1)) <|
  .ret (List.drop (0 : Nat) (List.take ((0 : Nat) + (List.length xs1)) xs1))
/-- pantograph/pantographref18.Next -/
noncomputable def ref18_Next_R0 (at_1 : Int) (r1 : (List Bool)) : Int → T (Int ⊕ (Unit ⊕ (Int × Bool)))
  | i =>
    .ite (decide (i < (Nat.cast (List.length r1) : Int)))
      (.obl (((decide (at_1 < i)) = true) → (idxOk i (List.length r1))) <|
        .ite ((decide (at_1 < i)) && (nth r1 i (dflt .bool)))
          (.ret (.inr (.inr (i, true))))
          (.ret (.inl (w64 (i + (1 : Int))))))
      (.ret (.inr (.inl ())))
noncomputable def ref18_Next_L0 (at_1 : Int) (r1 : (List Bool)) (s : Int) : T (Unit ⊕ (Int × Bool)) := T.loop (ref18_Next_R0 at_1 r1) s
noncomputable def ref18_Next (f : Form) (l : (List Bool)) (at_ : Int) : T (Int × Bool) :=
  T.bind (ref18_Relevant f l) fun r =>
  T.bind (ref18_Next_L0 at_ r (0 : Int)) <|
    Sum.elim (fun _ =>
      .ret (at_, false))
    (fun (x, x1) =>
      .ret (x, x1))
/-- pantograph/pantographref18.Back -/
noncomputable def ref18_Back_R0 (at_1 : Int) (r1 : (List Bool)) : Int → T (Int ⊕ (Unit ⊕ (Int × Bool)))
  | i =>
    .ite (decide ((0 : Int) ≤ i))
      (.obl (((decide (i < at_1)) = true) → (idxOk i (List.length r1))) <|
        .ite ((decide (i < at_1)) && (nth r1 i (dflt .bool)))
          (.ret (.inr (.inr (i, true))))
          (.ret (.inl (w64 (i - (1 : Int))))))
      (.ret (.inr (.inl ())))
noncomputable def ref18_Back_L0 (at_1 : Int) (r1 : (List Bool)) (s : Int) : T (Unit ⊕ (Int × Bool)) := T.loop (ref18_Back_R0 at_1 r1) s
noncomputable def ref18_Back (f : Form) (l : (List Bool)) (at_ : Int) : T (Int × Bool) :=
  T.bind (ref18_Relevant f l) fun r =>
  T.bind (ref18_Back_L0 at_ r (w64 ((Nat.cast (List.length r) : Int) - (1 : Int)))) <|
    Sum.elim (fun _ =>
      .ret (at_, false))
    (fun (x, x1) =>
      .ret (x, x1))
/-- pantograph/page.Jump$1 -/
noncomputable def page_Jump_f1 (p : Page) (c1 : Str) : T Bool :=
  .ret (strEq p.1 c1)
/-- slices.IndexFunc[[]pantograph/api.Page,pantograph/api.Page] -/
noncomputable def slices_IndexFunc_sl_Page_R0 (s1 : (List Page)) (f : Page → T Bool) (x : Int) : Int → T (Int ⊕ (Unit ⊕ Int))
  | x1 =>
    .ite (decide (x1 < x))
      (.obl (idxOk x1 (List.length s1)) <|
        T.bind (f (nth s1 x1 (dflt tyPage))) fun r =>
        .ite r
          (.ret (.inr (.inr x1)))
          (.ret (.inl (w64 (x1 + (1 : Int))))))
      (.ret (.inr (.inl ())))
noncomputable def slices_IndexFunc_sl_Page_L0 (s1 : (List Page)) (f : Page → T Bool) (x : Int) (s : Int) : T (Unit ⊕ Int) := T.loop (slices_IndexFunc_sl_Page_R0 s1 f x) s
noncomputable def slices_IndexFunc_sl_Page (s : (List Page)) (f : Page → T Bool) : T Int :=
  T.bind (slices_IndexFunc_sl_Page_L0 s f (Nat.cast (List.length s) : Int) (0 : Int)) <|
    Sum.elim (fun _ =>
      .ret (-1 : Int))
    (fun x2 =>
      .ret x2)
/-- pantograph/page.Jump -/
noncomputable def page_Jump (f : Form) (on : (List Bool)) (name : Str) : T (Int × Int) :=
  T.bind (slices_IndexFunc_sl_Page f.2.2.1 (fun z0 => page_Jump_f1 z0 name)) fun i =>
  .ite (decide (i < (0 : Int)))
    (.ret ((-1 : Int), (5 : Int)))
    (T.bind (page_Relevant f on) fun r =>
      .obl (idxOk i (List.length r)) <|
      .ite (!(nth r i (dflt .bool)))
        (.ret ((-1 : Int), (12 : Int)))
        (.ret (i, (0 : Int))))
/-- pantograph/pantographref18.Jump -/
noncomputable def ref18_Jump_R0 (name1 : Str) (f1 : Form) (r1 : (List Bool)) : Int → T (Int ⊕ (Unit ⊕ (Int × Int)))
  | i =>
    .ite (decide (i < (Nat.cast (List.length f1.2.2.1) : Int)))
      (.obl (idxOk i (List.length f1.2.2.1)) <|
        .ite (strEq (nth f1.2.2.1 i (dflt tyPage)).1 name1)
          (.obl (idxOk i (List.length r1)) <|
            .ite (!(nth r1 i (dflt .bool)))
              (.ret (.inr (.inr ((-1 : Int), (12 : Int)))))
              (.ret (.inr (.inr (i, (0 : Int))))))
          (.ret (.inl (w64 (i + (1 : Int))))))
      (.ret (.inr (.inl ())))
noncomputable def ref18_Jump_L0 (name1 : Str) (f1 : Form) (r1 : (List Bool)) (s : Int) : T (Unit ⊕ (Int × Int)) := T.loop (ref18_Jump_R0 name1 f1 r1) s
noncomputable def ref18_Jump (f : Form) (l : (List Bool)) (name : Str) : T (Int × Int) :=
  T.bind (ref18_Relevant f l) fun r =>
  T.bind (ref18_Jump_L0 name f r (0 : Int)) <|
    Sum.elim (fun _ =>
      .ret ((-1 : Int), (5 : Int)))
    (fun (x, x1) =>
      .ret (x, x1))
/-- pantograph/pantographref18.Fix -/
noncomputable def ref18_Fix (f : Form) (l : (List Bool)) (at_ : Int) : T Int :=
  T.bind (ref18_Relevant f l) fun r =>
  .obl (((decide ((0 : Int) ≤ at_)) = true) → (((decide (at_ < (Nat.cast (List.length r) : Int))) = true) → (idxOk at_ (List.length r)))) <|
  .ite ((decide ((0 : Int) ≤ at_)) && ((decide (at_ < (Nat.cast (List.length r) : Int))) && (nth r at_ (dflt .bool))))
    (.ret at_)
    (T.bind (ref18_Back f l at_) fun (i, ok) =>
      .ite ok
        (.ret i)
        (T.bind (ref18_Next f l at_) fun (i1, ok1) =>
          .ite ok1
            (.ret i1)
            (.ret (0 : Int))))
/-- pantograph/pantographlaw18.PageGoes -/
noncomputable def law18_PageGoes_R0 (on1 : (List Bool)) (at_1 : Int) (name1 : Str) (f1 : Form) (r2 : (List Bool)) (x2 : (List Bool)) : Int → T (Int ⊕ (Unit ⊕ Bool))
  | i =>
    .ite (decide (i < (Nat.cast (List.length r2) : Int)))
      (.obl (idxOk i (List.length r2)) <|
        .obl (idxOk i (List.length x2)) <|
        .ite (!((nth r2 i (dflt .bool)) == (nth x2 i (dflt .bool))))
          (.ret (.inr (.inr false)))
          (.ret (.inl (w64 (i + (1 : Int))))))
      (.ret (.inr (.inl ())))
noncomputable def law18_PageGoes_L0 (on1 : (List Bool)) (at_1 : Int) (name1 : Str) (f1 : Form) (r2 : (List Bool)) (x2 : (List Bool)) (s : Int) : T (Unit ⊕ Bool) := T.loop (law18_PageGoes_R0 on1 at_1 name1 f1 r2 x2) s
noncomputable def law18_PageGoes (f : Form) (on : (List Bool)) (at_ : Int) (name : Str) : T Bool :=
  T.bind (T.bind (law18_long f) fun r =>
      .ite r
        (.ret true)
        (.ite (decide ((100 : Int) < (Nat.cast (List.length on) : Int)))
            (.ret true)
            (.ret (decide ((100 : Int) < (Nat.cast (List.length name) : Int))))) : T (Bool)) fun x =>
  .ite x
    (.ret true)
    (T.bind (page_Relevant f on) fun r1 =>
      T.bind (ref18_Relevant f on) fun x1 =>
      .ite ((Nat.cast (List.length r1) : Int) != (Nat.cast (List.length x1) : Int))
        (.ret false)
        (T.bind (law18_PageGoes_L0 on at_ name f r1 x1 (0 : Int)) <|
            Sum.elim (fun _ =>
              T.bind (page_Next f on at_) fun (a, ok) =>
              T.bind (ref18_Next f on at_) fun (b, is) =>
              T.bind (page_Back f on at_) fun (c, has) =>
              T.bind (ref18_Back f on at_) fun (d, too) =>
              T.bind (page_Jump f on name) fun (e, g) =>
              T.bind (ref18_Jump f on name) fun (h, i1) =>
              .ite (a == b)
                (.ite (ok == is)
                    (.ite (c == d)
                        (.ite (has == too)
                            (.ite (e == h)
                                (.ite (g == i1)
                                    (T.bind (page_Fix f on at_) fun r3 =>
                                      T.bind (ref18_Fix f on at_) fun r4 =>
                                      .ite (r3 == r4)
                                        (T.bind (law18_known) fun r5 =>
                                          .ret r5)
                                        (.ret false))
                                    (.ret false))
                                (.ret false))
                            (.ret false))
                        (.ret false))
                    (.ret false))
                (.ret false))
            (fun x3 =>
              .ret x3)))
end Go.AM.Lf
