/-
  Plain laws of the lifted program: DLib.
-/
import Derived.Test.YtgfadkdgifpddaaQBLib
set_option linter.unusedVariables false
/- Digits. Plain Lean. -/
namespace Go.AM.PL
/-- A digit's byte. -/
def dgt (n : Nat) : UInt8 := UInt8.ofNat (48 + n % 10)
/-- The digits of a number, the highest first; none of 0. -/
def dgz (n : Nat) : Str := if h : n = 0 then [] else dgz (n / 10) ++ [dgt n]
termination_by n
decreasing_by omega
def pr (n : Nat) : Str := if n = 0 then [48] else dgz n
theorem dgz_zero : dgz 0 = [] := by rw [dgz]; rfl
theorem dgz_pos {n : Nat} (h : n ≠ 0) : dgz n = dgz (n / 10) ++ [dgt n] := by rw [dgz, dif_neg h]
/-- The lowest first, as numbers. -/
def rd (n : Nat) : List Int := if h : n = 0 then [] else ((48 + n % 10 : Nat) : Int) :: rd (n / 10)
termination_by n
decreasing_by omega
theorem rd_zero : rd 0 = [] := by rw [rd]; rfl
theorem rd_pos {n : Nat} (h : n ≠ 0) : rd n = ((48 + n % 10 : Nat) : Int) :: rd (n / 10) := by rw [rd, dif_neg h]
def rdig : Nat → Nat → List Int
  | 0, _ => []
  | k + 1, n => ((48 + n % 10 : Nat) : Int) :: rdig k (n / 10)
theorem rdig_len (k n : Nat) : (rdig k n).length = k := by
  induction k generalizing n with
  | zero => rfl
  | succ k ih => simp [rdig, ih]
theorem rdig_mod (k n : Nat) : rdig k (n % 10 ^ k) = rdig k n := by
  induction k generalizing n with
  | zero => rfl
  | succ k ih =>
    simp only [rdig]
    have e1 : n % 10 ^ (k + 1) % 10 = n % 10 := Nat.mod_mod_of_dvd _ ⟨10 ^ k, by rw [Nat.pow_succ, Nat.mul_comm]⟩
    have e2 : n % 10 ^ (k + 1) / 10 = n / 10 % 10 ^ k := by rw [Nat.pow_succ, Nat.mul_comm, Nat.mod_mul_right_div_self]
    rw [e1, e2, ih]
theorem rd_split (k n : Nat) (h : n / 10 ^ k ≠ 0) : rd n = rdig k n ++ rd (n / 10 ^ k) := by
  induction k generalizing n with
  | zero => simp [rdig]
  | succ k ih =>
    have hn : n ≠ 0 := by intro z; subst z; simp at h
    have e : n / 10 ^ (k + 1) = n / 10 / 10 ^ k := by rw [Nat.pow_succ, Nat.mul_comm, Nat.div_div_eq_div_mul]
    rw [e] at h ⊢
    rw [rd_pos hn, ih _ h]; rfl
theorem rdig_small (k n : Nat) (h : n / 10 ^ k = 0) : ∃ z, rdig k n = rd n ++ List.replicate z 48 := by
  induction k generalizing n with
  | zero => simp at h; subst h; exact ⟨0, by rw [rd_zero]; rfl⟩
  | succ k ih =>
    have e : n / 10 ^ (k + 1) = n / 10 / 10 ^ k := by rw [Nat.pow_succ, Nat.mul_comm, Nat.div_div_eq_div_mul]
    rw [e] at h
    obtain ⟨z, hz⟩ := ih _ h
    simp only [rdig]
    by_cases hn : n = 0
    · subst hn
      refine ⟨z + 1, ?_⟩
      rw [hz]
      simp [rd_zero, List.replicate_succ]
    · exact ⟨z, by rw [hz, rd_pos hn]; rfl⟩
/-- Blocks of nine digits. -/
def blk (n : Nat) : List Int := if h : n = 0 then [] else rdig 9 (n % 1000000000) ++ blk (n / 1000000000)
termination_by n
decreasing_by omega
theorem blk_zero : blk 0 = [] := by rw [blk]; rfl
theorem blk_pos {n : Nat} (h : n ≠ 0) : blk n = rdig 9 (n % 1000000000) ++ blk (n / 1000000000) := by rw [blk, dif_neg h]
theorem blk_rd (n : Nat) : ∃ z, blk n = rd n ++ List.replicate z 48 := by
  induction n using Nat.strongRecOn with
  | _ n ih =>
    by_cases hn : n = 0
    · subst hn; exact ⟨0, by rw [blk_zero, rd_zero]; rfl⟩
    · rw [blk_pos hn]
      have e : rdig 9 (n % 1000000000) = rdig 9 n := rdig_mod 9 n
      rw [e]
      by_cases h : n / 1000000000 = 0
      · rw [h, blk_zero, List.append_nil]
        exact rdig_small 9 n h
      · obtain ⟨z, hz⟩ := ih (n / 1000000000) (by omega)
        refine ⟨z, ?_⟩
        rw [hz, ← List.append_assoc]
        congr 1
        exact (rd_split 9 n h).symm
theorem dgz_rd (n : Nat) : dgz n = bytesStr (rd n).reverse := by
  induction n using Nat.strongRecOn with
  | _ n ih =>
    by_cases hn : n = 0
    · subst hn; rw [dgz_zero, rd_zero]; rfl
    · rw [dgz_pos hn, rd_pos hn, ih _ (by omega)]
      simp only [List.reverse_cons, bytesStr, List.map_append, List.map_cons, List.map_nil]
      congr 1
theorem rd_ne {n : Nat} (h : n ≠ 0) : rd n ≠ [] := by rw [rd_pos h]; simp
theorem rd_last (n : Nat) : ∀ x, (rd n).getLast? = some x → x ≠ 48 := by
  induction n using Nat.strongRecOn with
  | _ n ih =>
    intro x hx
    by_cases hn : n = 0
    · subst hn; rw [rd_zero] at hx; cases hx
    · rw [rd_pos hn] at hx
      by_cases h2 : n / 10 = 0
      · rw [h2, rd_zero] at hx
        simp at hx; omega
      · refine ih (n / 10) (by omega) x ?_
        rw [← hx]
        cases hc : rd (n / 10) with
        | nil => exact absurd hc (rd_ne h2)
        | cons y l => rw [List.getLast?_cons_cons]
theorem dgz_len (n k : Nat) (h : n < 10 ^ k) : (dgz n).length ≤ k := by
  induction k generalizing n with
  | zero =>
    have : n = 0 := by simpa using h
    subst this; rw [dgz_zero]; simp
  | succ k ih =>
    by_cases hn : n = 0
    · subst hn; rw [dgz_zero]; simp
    · rw [dgz_pos hn]
      have : n / 10 < 10 ^ k := by rw [Nat.div_lt_iff_lt_mul (by omega), ← Nat.pow_succ]; exact h
      have := ih _ this
      simp; omega
end Go.AM.PL
