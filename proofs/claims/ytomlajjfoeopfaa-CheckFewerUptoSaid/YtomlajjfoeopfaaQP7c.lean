/-
  Plain laws of the lifted program: P7c.
-/
import Derived.Test.YtomlajjfoeopfaaQP7b
set_option linter.unusedVariables false
namespace Go.AM.Lf
open PL

mutual
def wtE : Expr → Int → Int
  | .mk _ n s l, left => wtEs l (left - 3 - s.length - 8 * n.2.1.length - 8 * n.2.2.1.length)
def wtEs : List Expr → Int → Int
  | [], left => left
  | e :: r, left => if 0 ≤ left then wtEs r (wtE e left) else left
end
mutual
theorem wtE_le : ∀ (e : Expr) (left : Int), wtE e left ≤ left ∧ left - 16 * bkE e ≤ wtE e left
  | .mk _ n s l, left => by
    have := wtEs_le l (left - 3 - s.length - 8 * n.2.1.length - 8 * n.2.2.1.length)
    simp only [wtE, bkE]
    constructor <;> omega
theorem wtEs_le : ∀ (l : List Expr) (left : Int), wtEs l left ≤ left ∧ left - 16 * bkEs l ≤ wtEs l left
  | [], left => by simp [wtEs, bkEs]
  | e :: r, left => by
    have h1 := wtE_le e left
    have h2 := wtEs_le r (wtE e left)
    simp only [wtEs, bkEs]
    split <;> constructor <;> omega
end
theorem wtEs_neg (l : List Expr) (left : Int) (h : ¬ 0 ≤ left) : wtEs l left = left := by cases l <;> simp [wtEs, h]
theorem weight_run (e : Expr) (left : Int) (h0 : 0 ≤ left) (h1 : left ≤ 400) (hb : bkE e ≤ 1000000000) : (law7_weight e left).run = some (wtE e left) := by
  unfold law7_weight
  refine T.fix_run (fun x : Expr × Int => 0 ≤ x.2 ∧ x.2 ≤ 400 ∧ bkE x.1 ≤ 1000000000) (fun x => bkE x.1) (fun x => wtE x.1 x.2) (fun x hx g hg => ?_) (x := (e, left)) ⟨h0, h1, hb⟩
  obtain ⟨e, left⟩ := x
  obtain ⟨h0, h1, hx⟩ := hx
  simp only at hx hg h0 h1
  have hk := bkEs_kids e
  have hkl := bkEs_len e.kids
  have loop : ∀ acc : Int, -100000000000 ≤ acc → acc ≤ 400 → (law7_weight_L0 (fun y0 y1 => g (y0, y1)) e (acc, 0)).run = some (wtEs e.kids acc) := by
    intro acc a1 a2
    refine T.loop_list e.kids (dflt .expr) (fun b i => (b, i)) (fun b r => b ≤ 400 ∧ ∀ x ∈ r, x ∈ e.kids) (fun r b => wtEs r b) ?_ ?_ ⟨a2, fun x hx => hx⟩
    · rintro b x xs i hi0 hi hx ⟨b1, b2⟩
      by_cases hb0 : 0 ≤ b
      · have hm := bkEs_mem (b2 x List.mem_cons_self)
        have hr := hg (x, b) ⟨hb0, b1, by simp only; omega⟩ (by simp only; omega)
        simp only at hr
        have := (wtE_le x b).1
        refine .inl ⟨wtE x b, ?_, ⟨by omega, fun y hy => b2 y (List.mem_cons_of_mem _ hy)⟩, ?_⟩
        · simp (disch := omega) [law7_weight_R0, hi, hx, hb0, hr]
        · simp [wtEs, hb0]
      · right
        have hw : wtEs (x :: xs) b = b := wtEs_neg _ _ hb0
        simp [law7_weight_R0, hi, hb0, hw]
    · rintro b _
      simp [law7_weight_R0, wtEs]
  unfold law7_weight_B
  cases e with | mk k n s kids =>
  simp only [Expr.kids, Expr.name, Expr.num, bkE] at *
  have hL := loop (left - 3 - s.length - 8 * n.2.1.length - 8 * n.2.2.1.length) (by omega) (by omega)
  rw [w64_in (x := left - 3) (by omega) (by omega), w64_in (x := left - 3 - s.length) (by omega) (by omega), w64_in (x := 8 * (n.2.1.length : Int)) (by omega) (by omega), w64_in (x := left - 3 - s.length - 8 * n.2.1.length) (by omega) (by omega),
    w64_in (x := 8 * (n.2.2.1.length : Int)) (by omega) (by omega), w64_in (by omega) (by omega), T.run_bind_of hL, T.run_ret]
  rfl

theorem known7_run : law7_known.run = some true := by
  unfold law7_known
  have h1 := linear_run (Expr.mk (5 : Int) (false, (([] : List Int), (([] : List Int), ()))) ([] : Str) ([(Expr.mk (2 : Int) (false, (([] : List Int), (([] : List Int), ()))) ([97] : Str) ([] : List AM.Expr)), (Expr.mk (2 : Int) (false, (([] : List Int), (([] : List Int), ()))) ([98] : Str) ([] : List AM.Expr))] : List AM.Expr)) ([([97] : Str), ([98] : Str)] : List Str) (by decide) (by decide)
  have h2 := Has_run (Expr.mk (2 : Int) (false, (([] : List Int), (([] : List Int), ()))) ([97] : Str) ([] : List AM.Expr)) ([([97] : Str)] : List Str) (by decide) (by decide)
  rw [T.run_bind_of h1]
  have e1 : linE ([([97] : Str), ([98] : Str)] : List Str) (Expr.mk (5 : Int) (false, (([] : List Int), (([] : List Int), ()))) ([] : Str) ([(Expr.mk (2 : Int) (false, (([] : List Int), (([] : List Int), ()))) ([97] : Str) ([] : List AM.Expr)), (Expr.mk (2 : Int) (false, (([] : List Int), (([] : List Int), ()))) ([98] : Str) ([] : List AM.Expr))] : List AM.Expr)) = false := by
    simp [linE, badP, hasP, nmE, nmEs, strEq_iff]
  have e2 : hasP (Expr.mk (2 : Int) (false, (([] : List Int), (([] : List Int), ()))) ([97] : Str) ([] : List AM.Expr)) ([([97] : Str)] : List Str) = true := by
    simp [hasP, nmE, nmEs, strEq_iff]
  rw [e1]
  simp only [Bool.not_false, T.run_ite_true]
  rw [T.run_bind_of h2, e2]
  rfl

theorem fewer_run (a b : Expr) (F : List Str) (ha : bkE a ≤ 100000000) (hb : bkE b ≤ 100000000) (hF : (F.length : Int) ≤ 1000000000) : (law7_CheckFewer a b F).run = some true := by
  have w1 := weight_run a 400 (by decide) (by decide) (by omega)
  have w2 := weight_run b 400 (by decide) (by decide) (by omega)
  have l1 := linear_run a F (by omega) (by omega)
  have l2 := linear_run b F (by omega) (by omega)
  have l3 := linear_run a [] (by omega) (by decide)
  have l4 := linear_run (Expr.mk (4 : Int) (false, (([] : List Int), (([] : List Int), ()))) ([] : Str) [a, b]) F (by simp only [bkE, bkEs]; simp; omega) (by omega)
  have e4 : linE F (Expr.mk (4 : Int) (false, (([] : List Int), (([] : List Int), ()))) ([] : Str) [a, b]) = (linE F a && linE F b) := by
    simp [linE, linEs, badP]
  have loop : (law7_CheckFewer_L0 F a b (linE F a) (linE F b) 0).run = some (.inl ()) := by
    refine T.loop_run (fun i => 0 ≤ i) (fun i => ((F.length : Int) - i).toNat) (fun _ => Sum.inl ()) (fun i h => ?_) (Int.le_refl 0)
    by_cases hi : i < F.length
    · left
      refine ⟨i + 1, ?_, by omega, by omega, rfl⟩
      cases hla : linE F a with
      | false => simp (disch := omega) [law7_CheckFewer_R0, hi]
      | true =>
        have hcut : ∀ x ∈ cutL (e := .str) 0 i F, x ∈ F := fun x hx => by
          unfold cutL at hx
          exact List.mem_of_mem_take (by simpa using hx)
        have hlen : ((cutL (e := .str) 0 i F).length : Int) ≤ 4611686018427387904 := by
          unfold cutL
          have : ((F.take i.toNat).drop (0 : Int).toNat).length ≤ F.length := by simp; omega
          omega
        have lc := linear_run a (cutL (e := .str) 0 i F) (by omega) hlen
        rw [linE_mono hcut a hla] at lc
        simp (disch := omega) [law7_CheckFewer_R0, hi, lc]
    · right
      simp [law7_CheckFewer_R0, hi]
  unfold law7_CheckFewer
  simp only [T.run_bind, w1, Option.bind_some, T.run_iteS]
  split
  · rfl
  simp only [w2, Option.bind_some, T.run_iteS, T.run_bind]
  split
  · rfl
  simp only [T.run_ret, Option.bind_some]
  split
  · rfl
  simp only [l1, l2, loop, Option.bind_some, Sum.elim_inl, T.run_bind, l3, linE_nil, T.run_iteS, if_true, l4, e4, known7_run, T.run_ret]
  cases linE F a <;> cases linE F b <;> rfl

theorem law7_CheckFewer_law (x : denL [.expr, .expr, .sl .str]) (_ : wfL [.expr, .expr, .sl .str] x) (h : bkL [.expr, .expr, .sl .str] x ≤ 1048576) :
    (law7_CheckFewer (toPs [.expr, .expr, .sl .str] x).1 (toPs [.expr, .expr, .sl .str] x).2.1 (toPs [.expr, .expr, .sl .str] x).2.2).run = some true := by
  obtain ⟨a, b, F, ⟨⟩⟩ := x
  have e2 : bkL [.expr, .expr, .sl .str] (a, b, F, ()) = bkE a + (bkE b + ((sumB (bk .str) F + 1) + 0)) := rfl
  rw [e2] at h
  have hF : ∀ G : List Str, G.length ≤ sumB (bk .str) G := by
    intro G
    induction G with
    | nil => exact Nat.le_refl _
    | cons s r ih =>
      have e : sumB (bk .str) (s :: r) = (List.length s + 1) + sumB (bk .str) r := rfl
      rw [e, List.length_cons]
      omega
  have hF := hF F
  exact fewer_run a b F (by omega) (by omega) (by omega)
end Go.AM.Lf
