/-
  The program's functions as trees in plain Lean, part 1: printed by a program of ours.
-/
import Derived.Test.YtecllnbdbdnfbaaGreatDoorLf0
set_option linter.unusedVariables false
noncomputable section
namespace Go.AM.Lf
def ref5_Names_R1 (self_ref5_Names : AM.Expr → T (List Str)) (e2 : AM.Expr) (i1 : Int) (m1 : (List Str)) : (Int × (List Str)) → T ((Int × (List Str)) ⊕ ((List Str)))
 | (k, xs1) =>
 .ite (decide (k < (Nat.cast m1.length : Int)))
  (.obl (idxOk k m1.length) <|
 .obl (xs1.length = xs1.length) <|
 T.bind (ref5_Has (List.drop (0 : Nat) (List.take ((0 : Nat) + xs1.length) xs1)) (nth m1 k (dflt .str))) fun r =>
 .ite (!r)
  (.obl (idxOk k m1.length) <|
 .obl (appOk xs1.length xs1.length (0 : Nat) xs1.length xs1.length (1 : Nat) (16 : Nat)) <|
 .obl (curOk (xs1.length + (1 : Nat)) (0 : Nat) (xs1.length + (1 : Nat)) (List.length (xs1 ++ ([(nth m1 k (dflt .str))] : List Str)))) <|
 .obl ((xs1.length + (1 : Nat)) = (List.length (xs1 ++ ([(nth m1 k (dflt .str))] : List Str)))) <|
 .ret (.inl ((w64 (k + 1)), (xs1 ++ ([(nth m1 k (dflt .str))] : List Str)))))
  (.obl (curOk xs1.length (0 : Nat) xs1.length xs1.length) <|
 .obl (xs1.length = xs1.length) <|
 .ret (.inl ((w64 (k + 1)), xs1))))
  (.obl (curOk xs1.length (0 : Nat) xs1.length xs1.length) <|
 .obl (xs1.length = xs1.length) <|
 .ret (.inr xs1))
def ref5_Names_L1 (self_ref5_Names : AM.Expr → T (List Str)) (e2 : AM.Expr) (i1 : Int) (m1 : (List Str)) (s : (Int × (List Str))) : T ((List Str)) := T.loop (ref5_Names_R1 self_ref5_Names e2 i1 m1) s
def ref5_Names_R0 (self_ref5_Names : AM.Expr → T (List Str)) (e1 : AM.Expr) : (Int × (List Str)) → T ((Int × (List Str)) ⊕ ((List Str)))
 | (i, xs) =>
 .ite (decide (i < (Nat.cast (List.length (Expr.kids e1)) : Int)))
  (.obl (idxOk i (List.length (Expr.kids e1))) <|
 T.bind (self_ref5_Names (nth (Expr.kids e1) i (dflt .expr))) fun m =>
 .obl (curOk xs.length (0 : Nat) xs.length xs.length) <|
 .obl (xs.length = xs.length) <|
 T.bind (ref5_Names_L1 self_ref5_Names e1 i m ((0 : Int), xs)) fun xs2 =>
 .obl (curOk xs2.length (0 : Nat) xs2.length xs2.length) <|
 .obl (xs2.length = xs2.length) <|
 .ret (.inl ((w64 (i + 1)), xs2)))
  (.obl (curOk xs.length (0 : Nat) xs.length xs.length) <|
 .obl (xs.length = xs.length) <|
 .ret (.inr xs))
def ref5_Names_L0 (self_ref5_Names : AM.Expr → T (List Str)) (e1 : AM.Expr) (s : (Int × (List Str))) : T ((List Str)) := T.loop (ref5_Names_R0 self_ref5_Names e1) s
def ref5_Names_B (self_ref5_Names : AM.Expr → T (List Str)) (e : AM.Expr) : T (List Str) :=
 .ite ((Expr.kind e) == 2)
  (.obl (((1 : Nat) * (16 : Nat)) ≤ (140737488355328 : Nat)) <|
 .obl (curOk (1 : Nat) (0 : Nat) (1 : Nat) (1 : Nat)) <|
 .obl ((1 : Nat) = (1 : Nat)) <|
 T.bind (ref5_Names_L0 self_ref5_Names e ((0 : Int), ([(Expr.name e)] : List Str))) fun xs3 =>
 .obl (xs3.length = xs3.length) <|
 .ret (List.drop (0 : Nat) (List.take ((0 : Nat) + xs3.length) xs3)))
  (.obl (curOk (0 : Nat) (0 : Nat) (0 : Nat) (0 : Nat)) <|
 .obl ((0 : Nat) = (0 : Nat)) <|
 T.bind (ref5_Names_L0 self_ref5_Names e ((0 : Int), ([] : List Str))) fun xs4 =>
 .obl (xs4.length = xs4.length) <|
 .ret (List.drop (0 : Nat) (List.take ((0 : Nat) + xs4.length) xs4)))
def ref5_Names (e : AM.Expr) : T (List Str) := T.fix (fun F x => ref5_Names_B (fun y0 => F (y0)) x) e
def ref7_unknown_R1 (l2 : (List AM.Expr)) (known2 : (List Str)) (i1 : Int) (n1 : (List Str)) : Int → T (Int ⊕ (Unit ⊕ Str))
 | k =>
 .ite (decide (k < (Nat.cast n1.length : Int)))
  (.obl (idxOk k n1.length) <|
 T.bind (ref5_Has known2 (nth n1 k (dflt .str))) fun r =>
 .ite (!r)
  (.obl (idxOk k n1.length) <|
 .ret (.inr (.inr (nth n1 k (dflt .str)))))
  (.ret (.inl (w64 (k + 1)))))
  (.ret (.inr (.inl ())))
def ref7_unknown_L1 (l2 : (List AM.Expr)) (known2 : (List Str)) (i1 : Int) (n1 : (List Str)) (s : Int) : T (Unit ⊕ Str) := T.loop (ref7_unknown_R1 l2 known2 i1 n1) s
def ref7_unknown_R0 (l1 : (List AM.Expr)) (known1 : (List Str)) : Int → T (Int ⊕ (Unit ⊕ Str))
 | i =>
 .ite (decide (i < (Nat.cast l1.length : Int)))
  (.obl (idxOk i l1.length) <|
 T.bind (ref5_Names (nth l1 i (dflt .expr))) fun n =>
 T.bind (ref7_unknown_L1 l1 known1 i n (0 : Int)) <|
 Sum.elim (fun _ =>
 .ret (.inl (w64 (i + 1))))
  (fun x =>
 .ret (.inr (.inr x))))
  (.ret (.inr (.inl ())))
def ref7_unknown_L0 (l1 : (List AM.Expr)) (known1 : (List Str)) (s : Int) : T (Unit ⊕ Str) := T.loop (ref7_unknown_R0 l1 known1) s
def ref7_unknown (l : (List AM.Expr)) (known : (List Str)) : T Str :=
 T.bind (ref7_unknown_L0 l known (0 : Int)) <|
 Sum.elim (fun _ =>
 .ret ([] : Str))
  (fun x1 =>
 .ret x1)
def ref7_Has_R0 (fields1 : (List Str)) (l1 : (List Str)) : Int → T (Int ⊕ (Unit ⊕ Bool))
 | i =>
 .ite (decide (i < (Nat.cast l1.length : Int)))
  (.obl (idxOk i l1.length) <|
 T.bind (ref5_Has fields1 (nth l1 i (dflt .str))) fun r =>
 .ite r
  (.ret (.inr (.inr true)))
  (.ret (.inl (w64 (i + 1)))))
  (.ret (.inr (.inl ())))
def ref7_Has_L0 (fields1 : (List Str)) (l1 : (List Str)) (s : Int) : T (Unit ⊕ Bool) := T.loop (ref7_Has_R0 fields1 l1) s
def ref7_Has (e : AM.Expr) (fields : (List Str)) : T Bool :=
 T.bind (ref5_Names e) fun l =>
 T.bind (ref7_Has_L0 fields l (0 : Int)) <|
 Sum.elim (fun _ =>
 .ret false)
  (fun x =>
 .ret x)
def ref7_Linear_R0 (self_ref7_Linear : AM.Expr → (List Str) → T Bool) (fields1 : (List Str)) (e1 : AM.Expr) : Int → T (Int ⊕ (Unit ⊕ Bool))
 | i =>
 .ite (decide (i < (Nat.cast (List.length (Expr.kids e1)) : Int)))
  (.obl (idxOk i (List.length (Expr.kids e1))) <|
 T.bind (self_ref7_Linear (nth (Expr.kids e1) i (dflt .expr)) fields1) fun r =>
 .ite (!r)
  (.ret (.inr (.inr false)))
  (.ret (.inl (w64 (i + 1)))))
  (.ret (.inr (.inl ())))
def ref7_Linear_L0 (self_ref7_Linear : AM.Expr → (List Str) → T Bool) (fields1 : (List Str)) (e1 : AM.Expr) (s : Int) : T (Unit ⊕ Bool) := T.loop (ref7_Linear_R0 self_ref7_Linear fields1 e1) s
def ref7_Linear_B (self_ref7_Linear : AM.Expr → (List Str) → T Bool) (e : AM.Expr) (fields : (List Str)) : T Bool :=
 T.bind (ref7_Linear_L0 self_ref7_Linear fields e (0 : Int)) <|
 Sum.elim (fun _ =>
 .ite (((Expr.kind e) == 5) && ((Nat.cast (List.length (Expr.kids e)) : Int) == (2 : Int)))
  (.obl (idxOk (0 : Int) (List.length (Expr.kids e))) <|
 T.bind (ref7_Has (nth (Expr.kids e) (0 : Int) (dflt .expr)) fields) fun r1 =>
 .ite (!r1)
  (.ret true)
  (.obl (idxOk (1 : Int) (List.length (Expr.kids e))) <|
 T.bind (ref7_Has (nth (Expr.kids e) (1 : Int) (dflt .expr)) fields) fun r2 =>
 .ret (!r2)))
  (.ite (((Expr.kind e) == 6) && ((Nat.cast (List.length (Expr.kids e)) : Int) == (2 : Int)))
  (.obl (idxOk (1 : Int) (List.length (Expr.kids e))) <|
 T.bind (ref7_Has (nth (Expr.kids e) (1 : Int) (dflt .expr)) fields) fun r3 =>
 .ret (!r3))
  (.ret true)))
  (fun x =>
 .ret x)
def ref7_Linear (e : AM.Expr) (fields : (List Str)) : T Bool := T.fix (fun F x => ref7_Linear_B (fun y0 y1 => F (y0, y1)) x.1 x.2) (e, fields)
def ref7_Static_R0 (f1 : Form) (fields1 : (List Str)) : (Int × (List Str)) → T ((Int × (List Str)) ⊕ ((List Str)))
 | (i, xs) =>
 .ite (decide (i < (Nat.cast f1.2.1.length : Int)))
  (.obl (idxOk i f1.2.1.length) <|
 .obl (appOk xs.length xs.length (0 : Nat) xs.length xs.length (1 : Nat) (16 : Nat)) <|
 .obl (curOk (xs.length + (1 : Nat)) (0 : Nat) (xs.length + (1 : Nat)) (List.length (xs ++ ([(nth f1.2.1 i (dflt tyParam)).1] : List Str)))) <|
 .obl ((xs.length + (1 : Nat)) = (List.length (xs ++ ([(nth f1.2.1 i (dflt tyParam)).1] : List Str)))) <|
 .ret (.inl ((w64 (i + 1)), (xs ++ ([(nth f1.2.1 i (dflt tyParam)).1] : List Str)))))
  (.obl (curOk xs.length (0 : Nat) xs.length xs.length) <|
 .obl (xs.length = xs.length) <|
 .ret (.inr xs))
def ref7_Static_L0 (f1 : Form) (fields1 : (List Str)) (s : (Int × (List Str))) : T ((List Str)) := T.loop (ref7_Static_R0 f1 fields1) s
def ref7_Static_R1 (f2 : Form) (fields2 : (List Str)) : Int → T (Int ⊕ (Unit ⊕ (Int × Str)))
 | i1 =>
 .ite (decide (i1 < (Nat.cast f2.2.2.2.2.1.length : Int)))
  (T.bind (.obl (idxOk i1 f2.2.2.2.2.1.length) <|
 T.bind (ref7_Linear (nth f2.2.2.2.2.1 i1 (dflt tyRule)).2.2.2.1 fields2) fun r3 =>
 .ite (!r3)
  (.ret true)
  (.obl (idxOk i1 f2.2.2.2.2.1.length) <|
 T.bind (ref7_Linear (nth f2.2.2.2.2.1 i1 (dflt tyRule)).2.2.2.2.1 fields2) fun r4 =>
 .ret (!r4)) : T (Bool)) fun x =>
 .ite x
  (.obl (idxOk i1 f2.2.2.2.2.1.length) <|
 .ret (.inr (.inr ((6 : Int), (nth f2.2.2.2.2.1 i1 (dflt tyRule)).1))))
  (.ret (.inl (w64 (i1 + 1)))))
  (.ret (.inr (.inl ())))
def ref7_Static_L1 (f2 : Form) (fields2 : (List Str)) (s : Int) : T (Unit ⊕ (Int × Str)) := T.loop (ref7_Static_R1 f2 fields2) s
def ref7_Static (f : Form) : T (Int × Str) :=
 T.bind (ref6_Is f) fun r =>
 .ite (!r)
  (.ret ((2 : Int), ([] : Str)))
  (.ite ((decide ((64 : Int) < (Nat.cast f.2.2.2.1.length : Int))) || (decide ((64 : Int) < (Nat.cast f.2.2.2.2.1.length : Int))))
  (.ret ((3 : Int), ([] : Str)))
  (T.bind (ref7_names f) fun r1 =>
 T.bind (ref7_twice r1) fun s =>
 T.bind (.ite (strEq s ([] : Str))
  (T.bind (ref7_guards f) fun s1 =>
 .ret s1)
  (.ret s) : T (Str)) fun s2 =>
 T.bind (ref7_Fields f) fun fields =>
 T.bind (.ite (strEq s2 ([] : Str))
  (.obl (appOk (0 : Nat) (0 : Nat) (0 : Nat) (0 : Nat) (0 : Nat) fields.length (16 : Nat)) <|
 .obl (curOk ((0 : Nat) + fields.length) (0 : Nat) ((0 : Nat) + fields.length) fields.length) <|
 .obl (((0 : Nat) + fields.length) = fields.length) <|
 T.bind (ref7_Static_L0 f fields ((0 : Int), fields)) fun xs1 =>
 T.bind (ref7_exprs f) fun r2 =>
 .obl (xs1.length = xs1.length) <|
 T.bind (ref7_unknown r2 (List.drop (0 : Nat) (List.take ((0 : Nat) + xs1.length) xs1))) fun s3 =>
 .ret s3)
  (.ret s2) : T (Str)) fun s4 =>
 .ite (!(strEq s4 ([] : Str)))
  (.ret ((5 : Int), s4))
  (T.bind (ref7_Static_L1 f fields (0 : Int)) <|
 Sum.elim (fun _ =>
 .ret ((0 : Int), ([] : Str)))
  (fun (x1, x2) =>
 .ret (x1, x2)))))
def law7_known  : T Bool :=
 T.bind (check_Linear (Expr.mk (5 : Int) (false, (([] : List Int), (([] : List Int), ()))) ([] : Str) ([(Expr.mk (2 : Int) (false, (([] : List Int), (([] : List Int), ()))) ([97] : Str) ([] : List AM.Expr)), (Expr.mk (2 : Int) (false, (([] : List Int), (([] : List Int), ()))) ([98] : Str) ([] : List AM.Expr))] : List AM.Expr)) ([([97] : Str), ([98] : Str)] : List Str)) fun r =>
 .ite (!r)
  (T.bind (check_Has (Expr.mk (2 : Int) (false, (([] : List Int), (([] : List Int), ()))) ([97] : Str) ([] : List AM.Expr)) ([([97] : Str)] : List Str)) fun r1 =>
 .ret r1)
  (.ret false)
def law7_CheckStatics (f : Form) : T Bool :=
 T.bind (law7_heavy f) fun r =>
 .ite r
  (.ret true)
  (T.bind (check_Static f) fun (e, s) =>
 T.bind (ref7_Static f) fun (x, t) =>
 .ite (e == x)
  (.ite (strEq s t)
  (T.bind (law7_known) fun r1 =>
 .ret r1)
  (.ret false))
  (.ret false))
end Go.AM.Lf
