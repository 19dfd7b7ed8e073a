/-
  The program's functions as trees in plain Lean, part 0: printed by a program of ours.
-/
import Derived.Test.YtomlajjfoeopfaaAmA
set_option linter.unusedVariables false
namespace Go.AM.Lf
abbrev tyruntime_boundsError : Ty := (.cons (.int .i64) (.cons (.int .i64) (.cons .bool (.cons (.int .u8) .nil))))
abbrev runtime_boundsError := den tyruntime_boundsError
abbrev tyruntime_errorAddressString : Ty := (.cons .str (.cons (.int .u64) .nil))
abbrev runtime_errorAddressString := den tyruntime_errorAddressString
abbrev tyRat : Ty := (.cons .bool (.cons (.sl (.int .u32)) (.cons (.sl (.int .u32)) .nil)))
abbrev Rat := den tyRat
/-- pantograph/pantographlaw7.weight -/
noncomputable def law7_weight_R0 (self_law7_weight : AM.Expr → Int → T Int) (e1 : AM.Expr) : (Int × Int) → T ((Int × Int) ⊕ (Int))
  | (left1, i) =>
    .ite ((decide (i < (Nat.cast (List.length (Expr.kids e1)) : Int))) && (decide ((0 : Int) ≤ left1)))
      (.obl (idxOk i (List.length (Expr.kids e1))) <|
        T.bind (self_law7_weight (nth (Expr.kids e1) i (dflt .expr)) left1) fun left2 =>
        .ret (.inl (left2, (w64 (i + (1 : Int))))))
      (.ret (.inr left1))
noncomputable def law7_weight_L0 (self_law7_weight : AM.Expr → Int → T Int) (e1 : AM.Expr) (s : (Int × Int)) : T (Int) := T.loop (law7_weight_R0 self_law7_weight e1) s
noncomputable def law7_weight_B (self_law7_weight : AM.Expr → Int → T Int) (e : AM.Expr) (left : Int) : T Int :=
  T.bind (law7_weight_L0 self_law7_weight e ((w64 ((w64 ((w64 ((w64 (left - (3 : Int))) - (Nat.cast (List.length (Expr.name e)) : Int))) - (w64 ((8 : Int) * (Nat.cast (List.length (Expr.num e).2.1) : Int))))) - (w64 ((8 : Int) * (Nat.cast (List.length (Expr.num e).2.2.1) : Int))))), (0 : Int))) fun left3 =>
  .ret left3
noncomputable def law7_weight (e : AM.Expr) (left : Int) : T Int := T.fix (fun F x => law7_weight_B (fun y0 y1 => F (y0, y1)) x.1 x.2) (e, left)
/-- slices.Index[[]string,string] -/
noncomputable def slices_Index_sl_string_R0 (s1 : (List Str)) (v1 : Str) (x : Int) : Int → T (Int ⊕ (Unit ⊕ Int))
  | x1 =>
    .ite (decide (x1 < x))
      (.obl (idxOk x1 (List.length s1)) <|
        .ite (strEq v1 (nth s1 x1 (dflt .str)))
          (.ret (.inr (.inr x1)))
          (.ret (.inl (w64 (x1 + (1 : Int))))))
      (.ret (.inr (.inl ())))
noncomputable def slices_Index_sl_string_L0 (s1 : (List Str)) (v1 : Str) (x : Int) (s : Int) : T (Unit ⊕ Int) := T.loop (slices_Index_sl_string_R0 s1 v1 x) s
noncomputable def slices_Index_sl_string (s : (List Str)) (v : Str) : T Int :=
  T.bind (slices_Index_sl_string_L0 s v (Nat.cast (List.length s) : Int) (0 : Int)) <|
    Sum.elim (fun _ =>
      .ret (-1 : Int))
    (fun x2 =>
      .ret x2)
/-- slices.Contains[[]string,string] -/
noncomputable def slices_Contains_sl_string (s : (List Str)) (v : Str) : T Bool :=
  T.bind (slices_Index_sl_string s v) fun r =>
  .ret (decide ((0 : Int) ≤ r))
/-- pantograph/expr.names -/
noncomputable def expr_names_R0 (self_expr_names : AM.Expr → (List Str) → T (List Str)) (x1 : (List AM.Expr)) (x2 : Int) : (Int × (List Str)) → T ((Int × (List Str)) ⊕ ((List Str)))
  | (x3, xs2) =>
    .ite (decide (x3 < x2))
      (.obl (idxOk x3 (List.length x1)) <|
        .obl (curOk (List.length xs2) (0 : Nat) (List.length xs2) (List.length xs2)) <|
        .obl ((List.length xs2) = (List.length xs2)) <|
        T.bind (self_expr_names (nth x1 x3 (dflt .expr)) xs2) fun l1 =>
        .obl (curOk (List.length l1) (0 : Nat) (List.length l1) (List.length l1)) <|
        .obl ((List.length l1) = (List.length l1)) <|
        .ret (.inl ((w64 (x3 + (1 : Int))), l1)))
      (.obl (curOk (List.length xs2) (0 : Nat) (List.length xs2) (List.length xs2)) <|
        .obl ((List.length xs2) = (List.length xs2)) <|
        .ret (.inr xs2))
noncomputable def expr_names_L0 (self_expr_names : AM.Expr → (List Str) → T (List Str)) (x1 : (List AM.Expr)) (x2 : Int) (s : (Int × (List Str))) : T ((List Str)) := T.loop (expr_names_R0 self_expr_names x1 x2) s
noncomputable def expr_names_S_B (self_expr_names : AM.Expr → (List Str) → T (List Str)) (e : AM.Expr) (l : (List Str)) : T (List Str) :=
  T.bind (T.bind (.ite ((Expr.kind e) == (2 : Int))
            (.obl ((List.length l) = (List.length l)) <|
              T.bind (slices_Contains_sl_string (List.drop (0 : Nat) (List.take ((0 : Nat) + (List.length l)) l)) (Expr.name e)) fun r =>
              .obl (curOk (List.length l) (0 : Nat) (List.length l) (List.length l)) <|
              .obl ((List.length l) = (List.length l)) <|
              .ret ((!r), l))
            (.obl (curOk (List.length l) (0 : Nat) (List.length l) (List.length l)) <|
              .obl ((List.length l) = (List.length l)) <|
              .ret (false, l)) : T ((Bool × (List Str)))) fun (x, xs) =>
      .ite x
        (.obl (appOk (List.length xs) (List.length xs) (0 : Nat) (List.length xs) (List.length xs) (1 : Nat) (16 : Nat)) <|
          .obl (curOk ((List.length xs) + (1 : Nat)) (0 : Nat) ((List.length xs) + (1 : Nat)) (List.length (xs ++ ([(Expr.name e)] : List Str)))) <|
          .obl (((List.length xs) + (1 : Nat)) = (List.length (xs ++ ([(Expr.name e)] : List Str)))) <|
          .ret (xs ++ ([(Expr.name e)] : List Str)))
        (.obl (curOk (List.length xs) (0 : Nat) (List.length xs) (List.length xs)) <|
          .obl ((List.length xs) = (List.length xs)) <|
          .ret xs) : T ((List Str))) fun xs1 =>
  .obl (curOk (List.length xs1) (0 : Nat) (List.length xs1) (List.length xs1)) <|
  .obl ((List.length xs1) = (List.length xs1)) <|
  T.bind (expr_names_L0 self_expr_names (Expr.kids e) (Nat.cast (List.length (Expr.kids e)) : Int) ((0 : Int), xs1)) fun xs3 =>
  .obl (curOk (List.length xs3) (0 : Nat) (List.length xs3) (List.length xs3)) <|
  .obl ((List.length xs3) = (List.length xs3)) <|
  .ret xs3
noncomputable def expr_names_S (e : AM.Expr) (l : (List Str)) : T (List Str) := T.fix (fun F x => expr_names_S_B (fun y0 y1 => F (y0, y1)) x.1 x.2) (e, l)
/-- pantograph/expr.Names -/
noncomputable def expr_Names (e : AM.Expr) : T (List Str) :=
  .obl (curOk (0 : Nat) (0 : Nat) (0 : Nat) (0 : Nat)) <|
  .obl ((0 : Nat) = (0 : Nat)) <|
  T.bind (expr_names_S e ([] : List Str)) fun xs =>
  .obl ((List.length xs) = (List.length xs)) <|
  .ret (List.drop (0 : Nat) (List.take ((0 : Nat) + (List.length xs)) xs))
/-- pantograph/check.Has$1 -/
noncomputable def check_Has_f1 (name : Str) (c1 : (List Str)) : T Bool :=
  T.bind (slices_Contains_sl_string c1 name) fun r =>
  .ret r
/-- slices.IndexFunc[[]string,string] -/
noncomputable def slices_IndexFunc_sl_string_R0 (s1 : (List Str)) (f : Str → T Bool) (x : Int) : Int → T (Int ⊕ (Unit ⊕ Int))
  | x1 =>
    .ite (decide (x1 < x))
      (.obl (idxOk x1 (List.length s1)) <|
        T.bind (f (nth s1 x1 (dflt .str))) fun r =>
        .ite r
          (.ret (.inr (.inr x1)))
          (.ret (.inl (w64 (x1 + (1 : Int))))))
      (.ret (.inr (.inl ())))
noncomputable def slices_IndexFunc_sl_string_L0 (s1 : (List Str)) (f : Str → T Bool) (x : Int) (s : Int) : T (Unit ⊕ Int) := T.loop (slices_IndexFunc_sl_string_R0 s1 f x) s
noncomputable def slices_IndexFunc_sl_string (s : (List Str)) (f : Str → T Bool) : T Int :=
  T.bind (slices_IndexFunc_sl_string_L0 s f (Nat.cast (List.length s) : Int) (0 : Int)) <|
    Sum.elim (fun _ =>
      .ret (-1 : Int))
    (fun x2 =>
      .ret x2)
/-- slices.ContainsFunc[[]string,string] -/
noncomputable def slices_ContainsFunc_sl_string (s : (List Str)) (f : Str → T Bool) : T Bool :=
  T.bind (slices_IndexFunc_sl_string s f) fun r =>
  .ret (decide ((0 : Int) ≤ r))
/-- pantograph/check.Has -/
noncomputable def check_Has (e : AM.Expr) (fields : (List Str)) : T Bool :=
  T.bind (expr_Names e) fun r =>
  T.bind (slices_ContainsFunc_sl_string r (fun z0 => check_Has_f1 z0 fields)) fun r1 =>
  .ret r1
/-- pantograph/check.Linear$1 -/
noncomputable def check_Linear_f1 (self_check_Linear : AM.Expr → (List Str) → T Bool) (k : AM.Expr) (c1 : (List Str)) : T Bool :=
  T.bind (self_check_Linear k c1) fun r =>
  .ret (!r)
/-- slices.IndexFunc[[]pantograph/api.Expr,pantograph/api.Expr] -/
noncomputable def slices_IndexFunc_sl_Expr_R0 (self_check_Linear : AM.Expr → (List Str) → T Bool) (s1 : (List AM.Expr)) (f : AM.Expr → T Bool) (x : Int) : Int → T (Int ⊕ (Unit ⊕ Int))
  | x1 =>
    .ite (decide (x1 < x))
      (.obl (idxOk x1 (List.length s1)) <|
        T.bind (f (nth s1 x1 (dflt .expr))) fun r =>
        .ite r
          (.ret (.inr (.inr x1)))
          (.ret (.inl (w64 (x1 + (1 : Int))))))
      (.ret (.inr (.inl ())))
noncomputable def slices_IndexFunc_sl_Expr_L0 (self_check_Linear : AM.Expr → (List Str) → T Bool) (s1 : (List AM.Expr)) (f : AM.Expr → T Bool) (x : Int) (s : Int) : T (Unit ⊕ Int) := T.loop (slices_IndexFunc_sl_Expr_R0 self_check_Linear s1 f x) s
noncomputable def slices_IndexFunc_sl_Expr (self_check_Linear : AM.Expr → (List Str) → T Bool) (s : (List AM.Expr)) (f : AM.Expr → T Bool) : T Int :=
  T.bind (slices_IndexFunc_sl_Expr_L0 self_check_Linear s f (Nat.cast (List.length s) : Int) (0 : Int)) <|
    Sum.elim (fun _ =>
      .ret (-1 : Int))
    (fun x2 =>
      .ret x2)
/-- slices.ContainsFunc[[]pantograph/api.Expr,pantograph/api.Expr] -/
noncomputable def slices_ContainsFunc_sl_Expr (self_check_Linear : AM.Expr → (List Str) → T Bool) (s : (List AM.Expr)) (f : AM.Expr → T Bool) : T Bool :=
  T.bind ((slices_IndexFunc_sl_Expr self_check_Linear) s f) fun r =>
  .ret (decide ((0 : Int) ≤ r))
/-- pantograph/check.Linear -/
noncomputable def check_Linear_B (self_check_Linear : AM.Expr → (List Str) → T Bool) (e : AM.Expr) (fields : (List Str)) : T Bool :=
  T.bind (.ite ((Nat.cast (List.length (Expr.kids e)) : Int) == (2 : Int))
        (.obl (idxOk (0 : Int) (List.length (Expr.kids e))) <|
          .obl (idxOk (1 : Int) (List.length (Expr.kids e))) <|
          T.bind (.ite ((Expr.kind e) == (5 : Int))
                (T.bind (check_Has (nth (Expr.kids e) (0 : Int) (dflt .expr)) fields) fun r =>
                  .ite r
                    (T.bind (check_Has (nth (Expr.kids e) (1 : Int) (dflt .expr)) fields) fun r1 =>
                      .ite r1
                        (.ret (true, ((nth (Expr.kids e) (0 : Int) (dflt .expr)), (nth (Expr.kids e) (1 : Int) (dflt .expr)))))
                        (.ite ((Expr.kind e) == (6 : Int))
                            (T.bind (check_Has (nth (Expr.kids e) (1 : Int) (dflt .expr)) fields) fun r2 =>
                              .ret (r2, ((nth (Expr.kids e) (0 : Int) (dflt .expr)), (nth (Expr.kids e) (1 : Int) (dflt .expr)))))
                            (.ret (false, ((nth (Expr.kids e) (0 : Int) (dflt .expr)), (nth (Expr.kids e) (1 : Int) (dflt .expr)))))))
                    (.ite ((Expr.kind e) == (6 : Int))
                        (T.bind (check_Has (nth (Expr.kids e) (1 : Int) (dflt .expr)) fields) fun r3 =>
                          .ret (r3, ((nth (Expr.kids e) (0 : Int) (dflt .expr)), (nth (Expr.kids e) (1 : Int) (dflt .expr)))))
                        (.ret (false, ((nth (Expr.kids e) (0 : Int) (dflt .expr)), (nth (Expr.kids e) (1 : Int) (dflt .expr)))))))
                (.ite ((Expr.kind e) == (6 : Int))
                    (T.bind (check_Has (nth (Expr.kids e) (1 : Int) (dflt .expr)) fields) fun r4 =>
                      .ret (r4, ((nth (Expr.kids e) (0 : Int) (dflt .expr)), (nth (Expr.kids e) (1 : Int) (dflt .expr)))))
                    (.ret (false, ((nth (Expr.kids e) (0 : Int) (dflt .expr)), (nth (Expr.kids e) (1 : Int) (dflt .expr)))))) : T ((Bool × AM.Expr × AM.Expr))) fun (x, v, v1) =>
          .ite x
            (.ret (.inr false))
            (.ret (.inl ())))
        (.ret (.inl ())) : T (Unit ⊕ Bool)) <|
    Sum.elim (fun _ =>
      T.bind ((slices_ContainsFunc_sl_Expr self_check_Linear) (Expr.kids e) (fun z0 => (check_Linear_f1 self_check_Linear) z0 fields)) fun r5 =>
      .ret (!r5))
    (fun x1 =>
      .ret x1)
noncomputable def check_Linear (e : AM.Expr) (fields : (List Str)) : T Bool := T.fix (fun F x => check_Linear_B (fun y0 y1 => F (y0, y1)) x.1 x.2) (e, fields)
/-- pantograph/pantographlaw7.known -/
noncomputable def law7_known  : T Bool :=
  T.bind (check_Linear (Expr.mk (5 : Int) (false, (([] : List Int), (([] : List Int), ()))) ([] : Str) ([(Expr.mk (2 : Int) (false, (([] : List Int), (([] : List Int), ()))) ([97] : Str) ([] : List AM.Expr)), (Expr.mk (2 : Int) (false, (([] : List Int), (([] : List Int), ()))) ([98] : Str) ([] : List AM.Expr))] : List AM.Expr)) ([([97] : Str), ([98] : Str)] : List Str)) fun r =>
  .ite (!r)
    (T.bind (check_Has (Expr.mk (2 : Int) (false, (([] : List Int), (([] : List Int), ()))) ([97] : Str) ([] : List AM.Expr)) ([([97] : Str)] : List Str)) fun r1 =>
      .ret r1)
    (.ret false)
/-- pantograph/pantographlaw7.CheckFewer -/
noncomputable def law7_CheckFewer_R0 (fields1 : (List Str)) (a1 : AM.Expr) (b1 : AM.Expr) (x2 : Bool) (y1 : Bool) : Int → T (Int ⊕ (Unit ⊕ Bool))
  | i =>
    .ite (decide (i < (Nat.cast (List.length fields1) : Int)))
      (T.bind (.ite x2
              (.obl (slOk (0 : Int) i (List.length fields1)) <|
                T.bind (check_Linear a1 (cutL (e := .str) (0 : Int) i fields1)) fun r2 =>
                .ret (!r2))
              (.ret false) : T (Bool)) fun x3 =>
        .ite x3
          (.ret (.inr (.inr false)))
          (.ret (.inl (w64 (i + (1 : Int))))))
      (.ret (.inr (.inl ())))
noncomputable def law7_CheckFewer_L0 (fields1 : (List Str)) (a1 : AM.Expr) (b1 : AM.Expr) (x2 : Bool) (y1 : Bool) (s : Int) : T (Unit ⊕ Bool) := T.loop (law7_CheckFewer_R0 fields1 a1 b1 x2 y1) s
noncomputable def law7_CheckFewer (a : AM.Expr) (b : AM.Expr) (fields : (List Str)) : T Bool :=
  T.bind (T.bind (law7_weight a (400 : Int)) fun r =>
      .ite (decide (r < (0 : Int)))
        (.ret true)
        (T.bind (law7_weight b (400 : Int)) fun r1 =>
          .ite (decide (r1 < (0 : Int)))
            (.ret true)
            (.ret (decide ((20 : Int) < (Nat.cast (List.length fields) : Int))))) : T (Bool)) fun x =>
  .ite x
    (.ret true)
    (T.bind (check_Linear a fields) fun x1 =>
      T.bind (check_Linear b fields) fun y =>
      T.bind (law7_CheckFewer_L0 fields a b x1 y (0 : Int)) <|
        Sum.elim (fun _ =>
          T.bind (check_Linear a ([] : List Str)) fun r3 =>
          .ite r3
            (T.bind (check_Linear (Expr.mk (4 : Int) (false, (([] : List Int), (([] : List Int), ()))) ([] : Str) ([a, b] : List AM.Expr)) fields) fun r4 =>
              .ite x1
                (.ite (r4 == y)
                    (T.bind (law7_known) fun r5 =>
                      .ret r5)
                    (.ret false))
                (.ite (r4 == false)
                    (T.bind (law7_known) fun r6 =>
                      .ret r6)
                    (.ret false)))
            (.ret false))
        (fun x4 =>
          .ret x4))
end Go.AM.Lf
