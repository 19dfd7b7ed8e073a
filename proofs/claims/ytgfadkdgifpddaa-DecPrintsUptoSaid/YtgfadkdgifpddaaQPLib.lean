/-
  Plain laws of the lifted program: PLib.
-/
import Derived.Test.YtgfadkdgifpddaaAmA
import Derived.Test.YtgfadkdgifpddaaAmD
set_option linter.unusedVariables false
namespace Go.AM.PL

/-- The place of the first of a list that p holds of; -1: none. -/
def ixF {α : Type} (p : α → Bool) (i : Int) : List α → Int
  | [] => -1
  | x :: r => if p x = true then i else ixF p (i + 1) r
theorem ixF_ge {α : Type} (p : α → Bool) (l : List α) (i : Int) (h : 0 ≤ i) : ixF p i l = -1 ∨ (i ≤ ixF p i l ∧ ixF p i l < i + l.length) := by
  induction l generalizing i with
  | nil => exact .inl rfl
  | cons x r ih =>
    simp only [ixF, List.length_cons]
    split
    · right; omega
    · rcases ih (i + 1) (by omega) with h | h
      · exact .inl h
      · right; omega
theorem ixF_any {α : Type} (p : α → Bool) (l : List α) (i : Int) (h : 0 ≤ i) : decide (0 ≤ ixF p i l) = l.any p := by
  induction l generalizing i with
  | nil => rfl
  | cons x r ih =>
    simp only [ixF, List.any_cons]
    split
    · rename_i hp; rw [hp]; simp [h]
    · rename_i hp; rw [ih (i + 1) (by omega)]; simp [hp]
/-- A search by index. -/
theorem ix_loop {α : Type} (l : List α) (d : α) (p : α → Bool) {r : Int → T (Int ⊕ (Unit ⊕ Int))}
    (h1 : ∀ i, 0 ≤ i → i < (l.length : Int) → p (nth l i d) = true → (r i).run = some (.inr (.inr i)))
    (h2 : ∀ i, 0 ≤ i → i < (l.length : Int) → p (nth l i d) = false → (r i).run = some (.inl (i + 1)))
    (h3 : ∀ i, ¬ i < (l.length : Int) → (r i).run = some (.inr (.inl ()))) : (T.loop r 0).run = some (if ixF p 0 l = -1 then .inl () else .inr (ixF p 0 l)) := by
  have := T.loop_run (r := r) (fun i => 0 ≤ i) (fun i => ((l.length : Int) - i).toNat) (fun i => if ixF p i (l.drop i.toNat) = -1 then .inl () else .inr (ixF p i (l.drop i.toNat))) (fun i h => ?_) (s := 0) (Int.le_refl 0)
  · simpa using this
  · by_cases hi : i < l.length
    · rw [drop_get l d h hi]
      cases hp : p (nth l i d) with
      | true =>
        right
        have : ¬ i = -1 := by omega
        rw [h1 i h hi hp]
        simp [ixF, hp, this]
      | false =>
        left
        exact ⟨i + 1, h2 i h hi hp, by omega, by omega, by simp [ixF, hp]⟩
    · right
      rw [drop_end _ hi, h3 i hi]
      rfl
theorem strEq_iff (a b : Str) : strEq a b = decide (a = b) := by
  unfold strEq
  by_cases h : a = b
  · subst h; simp
  · simp [h]
end Go.AM.PL
