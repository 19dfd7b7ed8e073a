/-
  The program's functions as trees in plain Lean, part 1: printed by a program of ours.
-/
import Derived.Test.YtecllnbdbdnfbaaGreatDoorLf0
set_option linter.unusedVariables false
noncomputable section
namespace Go.AM.Lf
def ref5_Names_R1 (self_ref5_Names : AM.Expr → T (List Str)) (e2 : AM.Expr) (i1 : Int) (m1 : (List Str)) : (Int × (List Str)) → T ((Int × (List Str)) ⊕ ((List Str)))
 | (k,xs1) =>
 .ite (decide (k < (Nat.cast m1.length : Int)))
  (.obl (idxOk k m1.length) <|
 .obl (xs1.length = xs1.length) <|
 T.bind (ref5_Has (List.drop (0 : Nat) (List.take ((0 : Nat) + xs1.length) xs1)) (nth m1 k (dflt .str))) fun r =>
 .ite (!r)
  (.obl (idxOk k m1.length) <|
 .obl (appOk xs1.length xs1.length (0 : Nat) xs1.length xs1.length (1 : Nat) (16 : Nat)) <|
 .obl (curOk (xs1.length + (1 : Nat)) (0 : Nat) (xs1.length + (1 : Nat)) (List.length (xs1 ++ ([(nth m1 k (dflt .str))] : List Str)))) <|
 .obl ((xs1.length + (1 : Nat)) = (List.length (xs1 ++ ([(nth m1 k (dflt .str))] : List Str)))) <|
 .ret (.inl ((w64 (k + 1)),(xs1 ++ ([(nth m1 k (dflt .str))] : List Str)))))
  (.obl (curOk xs1.length (0 : Nat) xs1.length xs1.length) <|
 .obl (xs1.length = xs1.length) <|
 .ret (.inl ((w64 (k + 1)),xs1))))
  (.obl (curOk xs1.length (0 : Nat) xs1.length xs1.length) <|
 .obl (xs1.length = xs1.length) <|
 .ret (.inr xs1))
def ref5_Names_L1 (self_ref5_Names : AM.Expr → T (List Str)) (e2 : AM.Expr) (i1 : Int) (m1 : (List Str)) (s : (Int × (List Str))) : T ((List Str)) := T.loop (ref5_Names_R1 self_ref5_Names e2 i1 m1) s
def ref5_Names_R0 (self_ref5_Names : AM.Expr → T (List Str)) (e1 : AM.Expr) : (Int × (List Str)) → T ((Int × (List Str)) ⊕ ((List Str)))
 | (i,xs) =>
 .ite (decide (i < (Nat.cast (List.length (Expr.kids e1)) : Int)))
  (.obl (idxOk i (List.length (Expr.kids e1))) <|
 T.bind (self_ref5_Names (nth (Expr.kids e1) i (dflt .expr))) fun m =>
 .obl (curOk xs.length (0 : Nat) xs.length xs.length) <|
 .obl (xs.length = xs.length) <|
 T.bind (ref5_Names_L1 self_ref5_Names e1 i m ((0 : Int),xs)) fun xs2 =>
 .obl (curOk xs2.length (0 : Nat) xs2.length xs2.length) <|
 .obl (xs2.length = xs2.length) <|
 .ret (.inl ((w64 (i + 1)),xs2)))
  (.obl (curOk xs.length (0 : Nat) xs.length xs.length) <|
 .obl (xs.length = xs.length) <|
 .ret (.inr xs))
def ref5_Names_L0 (self_ref5_Names : AM.Expr → T (List Str)) (e1 : AM.Expr) (s : (Int × (List Str))) : T ((List Str)) := T.loop (ref5_Names_R0 self_ref5_Names e1) s
def ref5_Names_B (self_ref5_Names : AM.Expr → T (List Str)) (e : AM.Expr) : T (List Str) :=
 .ite ((Expr.kind e) == 2)
  (.obl (((1 : Nat) * (16 : Nat)) ≤ (140737488355328 : Nat)) <|
 .obl (curOk (1 : Nat) (0 : Nat) (1 : Nat) (1 : Nat)) <|
 .obl ((1 : Nat) = (1 : Nat)) <|
 T.bind (ref5_Names_L0 self_ref5_Names e ((0 : Int),([(Expr.name e)] : List Str))) fun xs3 =>
 .obl (xs3.length = xs3.length) <|
 .ret (List.drop (0 : Nat) (List.take ((0 : Nat) + xs3.length) xs3)))
  (.obl (curOk (0 : Nat) (0 : Nat) (0 : Nat) (0 : Nat)) <|
 .obl ((0 : Nat) = (0 : Nat)) <|
 T.bind (ref5_Names_L0 self_ref5_Names e ((0 : Int),([] : List Str))) fun xs4 =>
 .obl (xs4.length = xs4.length) <|
 .ret (List.drop (0 : Nat) (List.take ((0 : Nat) + xs4.length) xs4)))
def ref5_Names (e : AM.Expr) : T (List Str) := T.fix (fun F x => ref5_Names_B (fun y0 => F (y0)) x) e
def ref7_unknown_R1 (l2 : (List AM.Expr)) (known2 : (List Str)) (i1 : Int) (n1 : (List Str)) : Int → T (Int ⊕ (Unit ⊕ Str))
 | k =>
 .ite (decide (k < (Nat.cast n1.length : Int)))
  (.obl (idxOk k n1.length) <|
 T.bind (ref5_Has known2 (nth n1 k (dflt .str))) fun r =>
 .ite (!r)
  (.obl (idxOk k n1.length) <|
 .ret (.inr (.inr (nth n1 k (dflt .str)))))
  (.ret (.inl (w64 (k + 1)))))
  (.ret (.inr (.inl ())))
def ref7_unknown_L1 (l2 : (List AM.Expr)) (known2 : (List Str)) (i1 : Int) (n1 : (List Str)) (s : Int) : T (Unit ⊕ Str) := T.loop (ref7_unknown_R1 l2 known2 i1 n1) s
def ref7_unknown_R0 (l1 : (List AM.Expr)) (known1 : (List Str)) : Int → T (Int ⊕ (Unit ⊕ Str))
 | i =>
 .ite (decide (i < (Nat.cast l1.length : Int)))
  (.obl (idxOk i l1.length) <|
 T.bind (ref5_Names (nth l1 i (dflt .expr))) fun n =>
 T.bind (ref7_unknown_L1 l1 known1 i n (0 : Int)) <|
 Sum.elim (fun _ =>
 .ret (.inl (w64 (i + 1))))
  (fun x =>
 .ret (.inr (.inr x))))
  (.ret (.inr (.inl ())))
def ref7_unknown_L0 (l1 : (List AM.Expr)) (known1 : (List Str)) (s : Int) : T (Unit ⊕ Str) := T.loop (ref7_unknown_R0 l1 known1) s
def ref7_unknown (l : (List AM.Expr)) (known : (List Str)) : T Str :=
 T.bind (ref7_unknown_L0 l known (0 : Int)) <|
 Sum.elim (fun _ =>
 .ret ([] : Str))
  (fun x1 =>
 .ret x1)
def ref7_Has_R0 (fields1 : (List Str)) (l1 : (List Str)) : Int → T (Int ⊕ (Unit ⊕ Bool))
 | i =>
 .ite (decide (i < (Nat.cast l1.length : Int)))
  (.obl (idxOk i l1.length) <|
 T.bind (ref5_Has fields1 (nth l1 i (dflt .str))) fun r =>
 .ite r
  (.ret (.inr (.inr true)))
  (.ret (.inl (w64 (i + 1)))))
  (.ret (.inr (.inl ())))
def ref7_Has_L0 (fields1 : (List Str)) (l1 : (List Str)) (s : Int) : T (Unit ⊕ Bool) := T.loop (ref7_Has_R0 fields1 l1) s
def ref7_Has (e : AM.Expr) (fields : (List Str)) : T Bool :=
 T.bind (ref5_Names e) fun l =>
 T.bind (ref7_Has_L0 fields l (0 : Int)) <|
 Sum.elim (fun _ =>
 .ret false)
  (fun x =>
 .ret x)
def ref7_Linear_R0 (self_ref7_Linear : AM.Expr → (List Str) → T Bool) (fields1 : (List Str)) (e1 : AM.Expr) : Int → T (Int ⊕ (Unit ⊕ Bool))
 | i =>
 .ite (decide (i < (Nat.cast (List.length (Expr.kids e1)) : Int)))
  (.obl (idxOk i (List.length (Expr.kids e1))) <|
 T.bind (self_ref7_Linear (nth (Expr.kids e1) i (dflt .expr)) fields1) fun r =>
 .ite (!r)
  (.ret (.inr (.inr false)))
  (.ret (.inl (w64 (i + 1)))))
  (.ret (.inr (.inl ())))
def ref7_Linear_L0 (self_ref7_Linear : AM.Expr → (List Str) → T Bool) (fields1 : (List Str)) (e1 : AM.Expr) (s : Int) : T (Unit ⊕ Bool) := T.loop (ref7_Linear_R0 self_ref7_Linear fields1 e1) s
def ref7_Linear_B (self_ref7_Linear : AM.Expr → (List Str) → T Bool) (e : AM.Expr) (fields : (List Str)) : T Bool :=
 T.bind (ref7_Linear_L0 self_ref7_Linear fields e (0 : Int)) <|
 Sum.elim (fun _ =>
 .ite (((Expr.kind e) == 5) && ((Nat.cast (List.length (Expr.kids e)) : Int) == (2 : Int)))
  (.obl (idxOk (0 : Int) (List.length (Expr.kids e))) <|
 T.bind (ref7_Has (nth (Expr.kids e) (0 : Int) (dflt .expr)) fields) fun r1 =>
 .ite (!r1)
  (.ret true)
  (.obl (idxOk (1 : Int) (List.length (Expr.kids e))) <|
 T.bind (ref7_Has (nth (Expr.kids e) (1 : Int) (dflt .expr)) fields) fun r2 =>
 .ret (!r2)))
  (.ite (((Expr.kind e) == 6) && ((Nat.cast (List.length (Expr.kids e)) : Int) == (2 : Int)))
  (.obl (idxOk (1 : Int) (List.length (Expr.kids e))) <|
 T.bind (ref7_Has (nth (Expr.kids e) (1 : Int) (dflt .expr)) fields) fun r3 =>
 .ret (!r3))
  (.ret true)))
  (fun x =>
 .ret x)
def ref7_Linear (e : AM.Expr) (fields : (List Str)) : T Bool := T.fix (fun F x => ref7_Linear_B (fun y0 y1 => F (y0,y1)) x.1 x.2) (e,fields)
def ref7_Static_R0 (f1 : Form) (fields1 : (List Str)) : (Int × (List Str)) → T ((Int × (List Str)) ⊕ ((List Str)))
 | (i,xs) =>
 .ite (decide (i < (Nat.cast f1.2.1.length : Int)))
  (.obl (idxOk i f1.2.1.length) <|
 .obl (appOk xs.length xs.length (0 : Nat) xs.length xs.length (1 : Nat) (16 : Nat)) <|
 .obl (curOk (xs.length + (1 : Nat)) (0 : Nat) (xs.length + (1 : Nat)) (List.length (xs ++ ([(nth f1.2.1 i (dflt tyParam)).1] : List Str)))) <|
 .obl ((xs.length + (1 : Nat)) = (List.length (xs ++ ([(nth f1.2.1 i (dflt tyParam)).1] : List Str)))) <|
 .ret (.inl ((w64 (i + 1)),(xs ++ ([(nth f1.2.1 i (dflt tyParam)).1] : List Str)))))
  (.obl (curOk xs.length (0 : Nat) xs.length xs.length) <|
 .obl (xs.length = xs.length) <|
 .ret (.inr xs))
def ref7_Static_L0 (f1 : Form) (fields1 : (List Str)) (s : (Int × (List Str))) : T ((List Str)) := T.loop (ref7_Static_R0 f1 fields1) s
def ref7_Static_R1 (f2 : Form) (fields2 : (List Str)) : Int → T (Int ⊕ (Unit ⊕ (Int × Str)))
 | i1 =>
 .ite (decide (i1 < (Nat.cast f2.2.2.2.2.1.length : Int)))
  (T.bind (.obl (idxOk i1 f2.2.2.2.2.1.length) <|
 T.bind (ref7_Linear (nth f2.2.2.2.2.1 i1 (dflt tyRule)).2.2.2.1 fields2) fun r3 =>
 .ite (!r3)
  (.ret true)
  (.obl (idxOk i1 f2.2.2.2.2.1.length) <|
 T.bind (ref7_Linear (nth f2.2.2.2.2.1 i1 (dflt tyRule)).2.2.2.2.1 fields2) fun r4 =>
 .ret (!r4)) : T (Bool)) fun x =>
 .ite x
  (.obl (idxOk i1 f2.2.2.2.2.1.length) <|
 .ret (.inr (.inr ((6 : Int),(nth f2.2.2.2.2.1 i1 (dflt tyRule)).1))))
  (.ret (.inl (w64 (i1 + 1)))))
  (.ret (.inr (.inl ())))
def ref7_Static_L1 (f2 : Form) (fields2 : (List Str)) (s : Int) : T (Unit ⊕ (Int × Str)) := T.loop (ref7_Static_R1 f2 fields2) s
def ref7_Static (f : Form) : T (Int × Str) :=
 T.bind (ref6_Is f) fun r =>
 .ite (!r)
  (.ret ((2 : Int),([] : Str)))
  (.ite ((decide ((64 : Int) < (Nat.cast f.2.2.2.1.length : Int))) || (decide ((64 : Int) < (Nat.cast f.2.2.2.2.1.length : Int))))
  (.ret ((3 : Int),([] : Str)))
  (T.bind (ref7_names f) fun r1 =>
 T.bind (ref7_twice r1) fun s =>
 T.bind (.ite (strEq s ([] : Str))
  (T.bind (ref7_guards f) fun s1 =>
 .ret s1)
  (.ret s) : T (Str)) fun s2 =>
 T.bind (ref7_Fields f) fun fields =>
 T.bind (.ite (strEq s2 ([] : Str))
  (.obl (appOk (0 : Nat) (0 : Nat) (0 : Nat) (0 : Nat) (0 : Nat) fields.length (16 : Nat)) <|
 .obl (curOk ((0 : Nat) + fields.length) (0 : Nat) ((0 : Nat) + fields.length) fields.length) <|
 .obl (((0 : Nat) + fields.length) = fields.length) <|
 T.bind (ref7_Static_L0 f fields ((0 : Int),fields)) fun xs1 =>
 T.bind (ref7_exprs f) fun r2 =>
 .obl (xs1.length = xs1.length) <|
 T.bind (ref7_unknown r2 (List.drop (0 : Nat) (List.take ((0 : Nat) + xs1.length) xs1))) fun s3 =>
 .ret s3)
  (.ret s2) : T (Str)) fun s4 =>
 .ite (!(strEq s4 ([] : Str)))
  (.ret ((5 : Int),s4))
  (T.bind (ref7_Static_L1 f fields (0 : Int)) <|
 Sum.elim (fun _ =>
 .ret ((0 : Int),([] : Str)))
  (fun (x1,x2) =>
 .ret (x1,x2)))))
def law7_known  : T Bool :=
 T.bind (check_Linear (Expr.mk (5 : Int) (false,(([] : List Int),(([] : List Int),()))) ([] : Str) ([(Expr.mk (2 : Int) (false,(([] : List Int),(([] : List Int),()))) ([97] : Str) ([] : List AM.Expr)),(Expr.mk (2 : Int) (false,(([] : List Int),(([] : List Int),()))) ([98] : Str) ([] : List AM.Expr))] : List AM.Expr)) ([([97] : Str),([98] : Str)] : List Str)) fun r =>
 .ite (!r)
  (T.bind (check_Has (Expr.mk (2 : Int) (false,(([] : List Int),(([] : List Int),()))) ([97] : Str) ([] : List AM.Expr)) ([([97] : Str)] : List Str)) fun r1 =>
 .ret r1)
  (.ret false)
def ref7_Fields_S_R0 (f1 : Form) : (Int × (List Str)) → T ((Int × (List Str)) ⊕ ((List Str)))
 | (i,xs) =>
 .ite (decide (i < (Nat.cast f1.2.2.2.1.length : Int)))
  (.obl (idxOk i f1.2.2.2.1.length) <|
 .obl (appOk xs.length xs.length (0 : Nat) xs.length xs.length (1 : Nat) (16 : Nat)) <|
 .obl (curOk (xs.length + (1 : Nat)) (0 : Nat) (xs.length + (1 : Nat)) (List.length (xs ++ ([(nth f1.2.2.2.1 i (dflt tyField)).1] : List Str)))) <|
 .obl ((xs.length + (1 : Nat)) = (List.length (xs ++ ([(nth f1.2.2.2.1 i (dflt tyField)).1] : List Str)))) <|
 .ret (.inl ((w64 (i + 1)),(xs ++ ([(nth f1.2.2.2.1 i (dflt tyField)).1] : List Str)))))
  (.obl (curOk xs.length (0 : Nat) xs.length xs.length) <|
 .obl (xs.length = xs.length) <|
 .ret (.inr xs))
def ref7_Fields_S_L0 (f1 : Form) (s : (Int × (List Str))) : T ((List Str)) := T.loop (ref7_Fields_S_R0 f1) s
def ref7_Fields_S (f : Form) : T (List Str) :=
 .obl (curOk (0 : Nat) (0 : Nat) (0 : Nat) (0 : Nat)) <|
 .obl ((0 : Nat) = (0 : Nat)) <|
 T.bind (ref7_Fields_S_L0 f ((0 : Int),([] : List Str))) fun xs1 =>
 .obl (curOk xs1.length (0 : Nat) xs1.length xs1.length) <|
 .obl (xs1.length = xs1.length) <|
 .ret xs1
def ref5_Names_S_R1 (e2 : AM.Expr) (i1 : Int) (m1 : (List Str)) : (Int × (List Str)) → T ((Int × (List Str)) ⊕ ((List Str)))
 | (k,xs1) =>
 .ite (decide (k < (Nat.cast m1.length : Int)))
  (.obl (idxOk k m1.length) <|
 .obl (xs1.length = xs1.length) <|
 T.bind (ref5_Has (List.drop (0 : Nat) (List.take ((0 : Nat) + xs1.length) xs1)) (nth m1 k (dflt .str))) fun r =>
 .ite (!r)
  (.obl (idxOk k m1.length) <|
 .obl (appOk xs1.length xs1.length (0 : Nat) xs1.length xs1.length (1 : Nat) (16 : Nat)) <|
 .obl (curOk (xs1.length + (1 : Nat)) (0 : Nat) (xs1.length + (1 : Nat)) (List.length (xs1 ++ ([(nth m1 k (dflt .str))] : List Str)))) <|
 .obl ((xs1.length + (1 : Nat)) = (List.length (xs1 ++ ([(nth m1 k (dflt .str))] : List Str)))) <|
 .ret (.inl ((w64 (k + 1)),(xs1 ++ ([(nth m1 k (dflt .str))] : List Str)))))
  (.obl (curOk xs1.length (0 : Nat) xs1.length xs1.length) <|
 .obl (xs1.length = xs1.length) <|
 .ret (.inl ((w64 (k + 1)),xs1))))
  (.obl (curOk xs1.length (0 : Nat) xs1.length xs1.length) <|
 .obl (xs1.length = xs1.length) <|
 .ret (.inr xs1))
def ref5_Names_S_L1 (e2 : AM.Expr) (i1 : Int) (m1 : (List Str)) (s : (Int × (List Str))) : T ((List Str)) := T.loop (ref5_Names_S_R1 e2 i1 m1) s
def ref5_Names_S_R0 (e1 : AM.Expr) : (Int × (List Str)) → T ((Int × (List Str)) ⊕ ((List Str)))
 | (i,xs) =>
 .ite (decide (i < (Nat.cast (List.length (Expr.kids e1)) : Int)))
  (.obl (idxOk i (List.length (Expr.kids e1))) <|
 T.bind (ref5_Names (nth (Expr.kids e1) i (dflt .expr))) fun m =>
 .obl (curOk xs.length (0 : Nat) xs.length xs.length) <|
 .obl (xs.length = xs.length) <|
 T.bind (ref5_Names_S_L1 e1 i m ((0 : Int),xs)) fun xs2 =>
 .obl (curOk xs2.length (0 : Nat) xs2.length xs2.length) <|
 .obl (xs2.length = xs2.length) <|
 .ret (.inl ((w64 (i + 1)),xs2)))
  (.obl (curOk xs.length (0 : Nat) xs.length xs.length) <|
 .obl (xs.length = xs.length) <|
 .ret (.inr xs))
def ref5_Names_S_L0 (e1 : AM.Expr) (s : (Int × (List Str))) : T ((List Str)) := T.loop (ref5_Names_S_R0 e1) s
def ref5_Names_S (e : AM.Expr) : T (List Str) :=
 .ite ((Expr.kind e) == 2)
  (.obl (((1 : Nat) * (16 : Nat)) ≤ (140737488355328 : Nat)) <|
 .obl (curOk (1 : Nat) (0 : Nat) (1 : Nat) (1 : Nat)) <|
 .obl ((1 : Nat) = (1 : Nat)) <|
 T.bind (ref5_Names_S_L0 e ((0 : Int),([(Expr.name e)] : List Str))) fun xs3 =>
 .obl (curOk xs3.length (0 : Nat) xs3.length xs3.length) <|
 .obl (xs3.length = xs3.length) <|
 .ret xs3)
  (.obl (curOk (0 : Nat) (0 : Nat) (0 : Nat) (0 : Nat)) <|
 .obl ((0 : Nat) = (0 : Nat)) <|
 T.bind (ref5_Names_S_L0 e ((0 : Int),([] : List Str))) fun xs4 =>
 .obl (curOk xs4.length (0 : Nat) xs4.length xs4.length) <|
 .obl (xs4.length = xs4.length) <|
 .ret xs4)
def law7_CheckNames_R0 (f1 : Form) : (Int × (List Str)) → T ((Int × (List Str)) ⊕ ((List Str)))
 | (i,xs1) =>
 .ite (decide (i < (Nat.cast f1.2.1.length : Int)))
  (.obl (idxOk i f1.2.1.length) <|
 .obl (appOk xs1.length xs1.length (0 : Nat) xs1.length xs1.length (1 : Nat) (16 : Nat)) <|
 .obl (curOk (xs1.length + (1 : Nat)) (0 : Nat) (xs1.length + (1 : Nat)) (List.length (xs1 ++ ([(nth f1.2.1 i (dflt tyParam)).1] : List Str)))) <|
 .obl ((xs1.length + (1 : Nat)) = (List.length (xs1 ++ ([(nth f1.2.1 i (dflt tyParam)).1] : List Str)))) <|
 .ret (.inl ((w64 (i + 1)),(xs1 ++ ([(nth f1.2.1 i (dflt tyParam)).1] : List Str)))))
  (.obl (curOk xs1.length (0 : Nat) xs1.length xs1.length) <|
 .obl (xs1.length = xs1.length) <|
 .ret (.inr xs1))
def law7_CheckNames_L0 (f1 : Form) (s : (Int × (List Str))) : T ((List Str)) := T.loop (law7_CheckNames_R0 f1) s
def law7_CheckNames_R1 (f2 : Form) : (Int × (List Str)) → T ((Int × (List Str)) ⊕ ((List Str) ⊕ (Bool × (List Str))))
 | (i1,xs3) =>
 .ite (decide (i1 < (Nat.cast xs3.length : Int)))
  (.obl (slOk (0 : Int) i1 xs3.length) <|
 .obl (idxOk i1 xs3.length) <|
 .obl (eOk xs3.length xs3.length ((0 : Nat) + (Int.toNat i1)) xs3.length) <|
 .obl (xs3.length = xs3.length) <|
 T.bind (ref5_Has (List.drop ((0 : Nat) + (Int.toNat (0 : Int))) (List.take (((0 : Nat) + (Int.toNat (0 : Int))) + ((Int.toNat i1) - (Int.toNat (0 : Int)))) xs3)) (nthN xs3 ((0 : Nat) + (Int.toNat i1)) (dflt .str))) fun r4 =>
 .ite r4
  (.obl (xs3.length = xs3.length) <|
 .ret (.inr (.inr (false,xs3))))
  (.obl (curOk xs3.length (0 : Nat) xs3.length xs3.length) <|
 .obl (xs3.length = xs3.length) <|
 .ret (.inl ((w64 (i1 + 1)),xs3))))
  (.obl (curOk xs3.length (0 : Nat) xs3.length xs3.length) <|
 .obl (xs3.length = xs3.length) <|
 .ret (.inr (.inl xs3)))
def law7_CheckNames_L1 (f2 : Form) (s : (Int × (List Str))) : T ((List Str) ⊕ (Bool × (List Str))) := T.loop (law7_CheckNames_R1 f2) s
def law7_CheckNames_R3 (f4 : Form) (i3 : Int) : (Int × (List Str) × (List Str) × (List Str)) → T ((Int × (List Str) × (List Str) × (List Str)) ⊕ (((List Str) × (List Str) × (List Str)) ⊕ (Bool × (List Str) × (List Str) × (List Str))))
 | (k,xs9,xs10,xs11) =>
 .ite (decide (k < (Nat.cast xs10.length : Int)))
  (.obl (idxOk k xs10.length) <|
 .obl (eOk xs10.length xs10.length ((0 : Nat) + (Int.toNat k)) xs10.length) <|
 .obl (xs9.length = xs9.length) <|
 T.bind (ref5_Has (List.drop (0 : Nat) (List.take ((0 : Nat) + xs9.length) xs9)) (nthN xs10 ((0 : Nat) + (Int.toNat k)) (dflt .str))) fun r5 =>
 .ite (!r5)
  (.obl (xs9.length = xs9.length) <|
 .obl (xs10.length = xs10.length) <|
 .obl (xs11.length = xs11.length) <|
 .ret (.inr (.inr (false,(xs9,(xs10,xs11))))))
  (.obl (curOk xs9.length (0 : Nat) xs9.length xs9.length) <|
 .obl (curOk xs10.length (0 : Nat) xs10.length xs10.length) <|
 .obl (xs9.length = xs9.length) <|
 .obl (xs10.length = xs10.length) <|
 .obl (xs11.length = xs11.length) <|
 .ret (.inl ((w64 (k + 1)),(xs9,(xs10,xs11))))))
  (.obl (curOk xs9.length (0 : Nat) xs9.length xs9.length) <|
 .obl (xs9.length = xs9.length) <|
 .obl (xs10.length = xs10.length) <|
 .obl (xs11.length = xs11.length) <|
 .ret (.inr (.inl (xs9,(xs10,xs11)))))
def law7_CheckNames_L3 (f4 : Form) (i3 : Int) (s : (Int × (List Str) × (List Str) × (List Str))) : T (((List Str) × (List Str) × (List Str)) ⊕ (Bool × (List Str) × (List Str) × (List Str))) := T.loop (law7_CheckNames_R3 f4 i3) s
def law7_CheckNames_R2 (f3 : Form) : (Int × (List Str)) → T ((Int × (List Str)) ⊕ ((List Str) ⊕ (Bool × (List Str))))
 | (i2,xs6) =>
 .ite (decide (i2 < (Nat.cast f3.2.2.2.2.1.length : Int)))
  (.obl (idxOk i2 f3.2.2.2.2.1.length) <|
 T.bind (ref5_Names_S (nth f3.2.2.2.2.1 i2 (dflt tyRule)).2.2.2.1) fun xs7 =>
 .obl (idxOk i2 f3.2.2.2.2.1.length) <|
 T.bind (ref5_Names_S (nth f3.2.2.2.2.1 i2 (dflt tyRule)).2.2.2.2.1) fun xs8 =>
 .obl (xs8.length = xs8.length) <|
 .obl (appOk xs7.length xs7.length (0 : Nat) xs7.length xs7.length (List.length (List.drop (0 : Nat) (List.take ((0 : Nat) + xs8.length) xs8))) (16 : Nat)) <|
 .obl (curOk xs6.length (0 : Nat) xs6.length xs6.length) <|
 .obl (curOk (xs7.length + (List.length (List.drop (0 : Nat) (List.take ((0 : Nat) + xs8.length) xs8)))) (0 : Nat) (xs7.length + (List.length (List.drop (0 : Nat) (List.take ((0 : Nat) + xs8.length) xs8)))) (List.length (xs7 ++ (List.drop (0 : Nat) (List.take ((0 : Nat) + xs8.length) xs8))))) <|
 .obl (xs6.length = xs6.length) <|
 .obl ((xs7.length + (List.length (List.drop (0 : Nat) (List.take ((0 : Nat) + xs8.length) xs8)))) = (List.length (xs7 ++ (List.drop (0 : Nat) (List.take ((0 : Nat) + xs8.length) xs8))))) <|
 .obl (xs8.length = xs8.length) <|
 T.bind (law7_CheckNames_L3 f3 i2 ((0 : Int),(xs6,((xs7 ++ (List.drop (0 : Nat) (List.take ((0 : Nat) + xs8.length) xs8))),xs8)))) <|
 Sum.elim (fun (xs12,xs13,xs14) =>
 .obl (curOk xs12.length (0 : Nat) xs12.length xs12.length) <|
 .obl (xs12.length = xs12.length) <|
 .ret (.inl ((w64 (i2 + 1)),xs12)))
  (fun (x2,xs15,xs16,xs17) =>
 .obl (xs15.length = xs15.length) <|
 .ret (.inr (.inr (x2,xs15)))))
  (.obl (xs6.length = xs6.length) <|
 .ret (.inr (.inl xs6)))
def law7_CheckNames_L2 (f3 : Form) (s : (Int × (List Str))) : T ((List Str) ⊕ (Bool × (List Str))) := T.loop (law7_CheckNames_R2 f3) s
def law7_CheckNames (f : Form) : T Bool :=
 T.bind (law7_heavy f) fun r =>
 .ite r
  (.ret true)
  (T.bind (check_Static f) fun (e,r1) =>
 .ite (e != 0)
  (T.bind (ref7_Static f) fun (x,r2) =>
 .ite (x == e)
  (T.bind (law7_known) fun r3 =>
 .ret r3)
  (.ret false))
  (T.bind (ref7_Fields_S f) fun xs =>
 .obl (curOk xs.length (0 : Nat) xs.length xs.length) <|
 .obl (xs.length = xs.length) <|
 T.bind (law7_CheckNames_L0 f ((0 : Int),xs)) fun xs2 =>
 .obl (curOk xs2.length (0 : Nat) xs2.length xs2.length) <|
 .obl (xs2.length = xs2.length) <|
 T.bind (law7_CheckNames_L1 f ((0 : Int),xs2)) <|
 Sum.elim (fun xs4 =>
 .obl (curOk xs4.length (0 : Nat) xs4.length xs4.length) <|
 .obl (xs4.length = xs4.length) <|
 T.bind (law7_CheckNames_L2 f ((0 : Int),xs4)) <|
 Sum.elim (fun xs18 =>
 T.bind (law7_known) fun r6 =>
 .ret r6)
  (fun (x3,xs19) =>
 .ret x3))
  (fun (x1,xs5) =>
 .ret x1)))
end Go.AM.Lf
