/-
  Plain laws of the lifted program: P3m.
-/
import Derived.Test.YtgfadkdgifpddaaQP3l
set_option linter.unusedVariables false
namespace Go.AM.Lf
open PL
/-- The table of lengths in bits. -/
def lenTab : Str := [0, 1, 2, 2, 3, 3, 3, 3, 4, 4, 4, 4, 4, 4, 4, 4] ++ List.replicate 16 5 ++ List.replicate 32 6 ++ List.replicate 64 7 ++ List.replicate 128 8
theorem lenTab_ok : ∀ y : Fin 256, y.val ≠ 0 → 1 ≤ (lenTab.getD y.val 0).toNat ∧ (lenTab.getD y.val 0).toNat ≤ 8 ∧ 2 ^ ((lenTab.getD y.val 0).toNat - 1) ≤ y.val ∧ y.val < 2 ^ (lenTab.getD y.val 0).toNat := by decide +kernel
set_option maxRecDepth 100000 in
theorem lenTab_len : lenTab.length = 256 := by decide +kernel
theorem len8 {y : Nat} (h0 : 0 < y) (h : y < 256) : ∃ t : Nat, byteAt lenTab (y : Int) = (t : Int) ∧ 1 ≤ t ∧ t ≤ 8 ∧ 2 ^ (t - 1) ≤ y ∧ y < 2 ^ t := by
  have := lenTab_ok ⟨y, h⟩ (by simp; omega)
  refine ⟨(lenTab.getD y 0).toNat, ?_, this⟩
  unfold byteAt
  rw [Int.toNat_natCast]
theorem shr_u32 {x s : Nat} (hs : s ≤ 32) : shrI .u32 (x : Int) (s : Int) = ((x / 2 ^ s : Nat) : Int) := by
  have e : min (s : Int).toNat 32 = s := by simp; omega
  show Int.fdiv (x : Int) (2 ^ (min (s : Int).toNat 32)) = _
  rw [e]
  have e2 : (2 : Int) ^ s = ((2 ^ s : Nat) : Int) := by simp
  rw [e2, Int.fdiv_eq_ediv_of_nonneg _ (Int.natCast_nonneg _)]; rfl
set_option maxRecDepth 100000 in
theorem len32_run {x : Nat} (h0 : 0 < x) (h : x < 4294967296) : ∃ t : Nat, (math_bits_Len32 (x : Int)).run = some (t : Int) ∧ 1 ≤ t ∧ t ≤ 32 ∧ 2 ^ (t - 1) ≤ x ∧ x < 2 ^ t := by
  have hdef : math_bits_Len32 (x : Int) = (.obl (((decide ((65536 : Int) ≤ (x : Int))) = true) → ((0 : Int) ≤ (16 : Int))) <|
    .obl (((decide ((256 : Int) ≤ (bif (decide ((65536 : Int) ≤ (x : Int))) then (shrI .u32 (x : Int) (16 : Int)) else (x : Int)))) = true) → ((0 : Int) ≤ (8 : Int))) <|
    .obl (idxOk (wu8 (bif (decide ((256 : Int) ≤ (bif (decide ((65536 : Int) ≤ (x : Int))) then (shrI .u32 (x : Int) (16 : Int)) else (x : Int)))) then (shrI .u32 (bif (decide ((65536 : Int) ≤ (x : Int))) then (shrI .u32 (x : Int) (16 : Int)) else (x : Int)) (8 : Int)) else (bif (decide ((65536 : Int) ≤ (x : Int))) then (shrI .u32 (x : Int) (16 : Int)) else (x : Int)))) lenTab.length) <|
    .ret (w64 ((bif (decide ((256 : Int) ≤ (bif (decide ((65536 : Int) ≤ (x : Int))) then (shrI .u32 (x : Int) (16 : Int)) else (x : Int)))) then (w64 ((bif (decide ((65536 : Int) ≤ (x : Int))) then (16 : Int) else (0 : Int)) + (8 : Int))) else (bif (decide ((65536 : Int) ≤ (x : Int))) then (16 : Int) else (0 : Int))) + (w64 (byteAt lenTab (wu8 (bif (decide ((256 : Int) ≤ (bif (decide ((65536 : Int) ≤ (x : Int))) then (shrI .u32 (x : Int) (16 : Int)) else (x : Int)))) then (shrI .u32 (bif (decide ((65536 : Int) ≤ (x : Int))) then (shrI .u32 (x : Int) (16 : Int)) else (x : Int)) (8 : Int)) else (bif (decide ((65536 : Int) ≤ (x : Int))) then (shrI .u32 (x : Int) (16 : Int)) else (x : Int)))))))) : T Int) := by rfl
  rw [hdef, lenTab_len]
  -- y: what is left; k: how many bits ahead of it
  obtain ⟨y, k, e1, e2, hk, hy0, hy, hlo, hhi⟩ : ∃ y k : Nat, (bif (decide ((256 : Int) ≤ (bif (decide ((65536 : Int) ≤ (x : Int))) then (shrI .u32 (x : Int) (16 : Int)) else (x : Int)))) then (shrI .u32 (bif (decide ((65536 : Int) ≤ (x : Int))) then (shrI .u32 (x : Int) (16 : Int)) else (x : Int)) (8 : Int)) else (bif (decide ((65536 : Int) ≤ (x : Int))) then (shrI .u32 (x : Int) (16 : Int)) else (x : Int))) = (y : Int) ∧
      (bif (decide ((256 : Int) ≤ (bif (decide ((65536 : Int) ≤ (x : Int))) then (shrI .u32 (x : Int) (16 : Int)) else (x : Int)))) then (w64 ((bif (decide ((65536 : Int) ≤ (x : Int))) then (16 : Int) else (0 : Int)) + (8 : Int))) else (bif (decide ((65536 : Int) ≤ (x : Int))) then (16 : Int) else (0 : Int))) = (k : Int) ∧
      k ≤ 24 ∧ 0 < y ∧ y < 256 ∧ y * 2 ^ k ≤ x ∧ x < (y + 1) * 2 ^ k := by
    have s16 : shrI .u32 (x : Int) 16 = ((x / 65536 : Nat) : Int) := shr_u32 (s := 16) (by omega)
    have s8 : ∀ z : Nat, shrI .u32 (z : Int) 8 = ((z / 256 : Nat) : Int) := fun z => shr_u32 (s := 8) (by omega)
    by_cases c1 : 65536 ≤ x
    · rw [show decide ((65536 : Int) ≤ (x : Int)) = true from decide_eq_true (by omega)]
      simp only [cond_true, s16]
      by_cases c2 : 256 ≤ x / 65536
      · rw [show decide ((256 : Int) ≤ ((x / 65536 : Nat) : Int)) = true from decide_eq_true (by omega)]
        simp only [cond_true, s8]
        exact ⟨x / 65536 / 256, 24, rfl, by decide, by omega, by omega, by omega, by omega, by omega⟩
      · rw [show decide ((256 : Int) ≤ ((x / 65536 : Nat) : Int)) = false from decide_eq_false (by omega)]
        simp only [cond_false]
        exact ⟨x / 65536, 16, rfl, rfl, by omega, by omega, by omega, by omega, by omega⟩
    · rw [show decide ((65536 : Int) ≤ (x : Int)) = false from decide_eq_false (by omega)]
      simp only [cond_false]
      by_cases c2 : 256 ≤ x
      · rw [show decide ((256 : Int) ≤ (x : Int)) = true from decide_eq_true (by omega)]
        simp only [cond_true, s8]
        exact ⟨x / 256, 8, rfl, by decide, by omega, by omega, by omega, by omega, by omega⟩
      · rw [show decide ((256 : Int) ≤ (x : Int)) = false from decide_eq_false (by omega)]
        simp only [cond_false]
        exact ⟨x, 0, rfl, rfl, by omega, by omega, by omega, by omega, by omega⟩
  obtain ⟨t, t1, t2, t3, t4, t5⟩ := len8 hy0 hy
  rw [e1, e2, wu8_in (by omega) (by omega), t1, w64_in (x := (t : Int)) (by omega) (by omega), w64_in (by omega) (by omega)]
  refine ⟨k + t, ?_, by omega, by omega, ?_, ?_⟩
  · rw [T.run_obl (fun _ => by omega), T.run_obl (fun _ => by omega), T.run_idx _ (by omega) (by omega), T.run_ret]; rfl
  · rw [show k + t - 1 = (t - 1) + k by omega, Nat.pow_add]
    exact Nat.le_trans (Nat.mul_le_mul_right _ t4) hlo
  · rw [show k + t = t + k by omega, Nat.pow_add]
    exact Nat.lt_of_lt_of_le hhi (Nat.mul_le_mul_right _ t5)
theorem lz32_run {x : Nat} (h0 : 0 < x) (h : x < 4294967296) : ∃ s : Nat, (math_bits_LeadingZeros32 (x : Int)).run = some (s : Int) ∧ s < 32 ∧ 2147483648 ≤ x * 2 ^ s ∧ x * 2 ^ s < 4294967296 := by
  obtain ⟨t, t1, t2, t3, t4, t5⟩ := len32_run h0 h
  refine ⟨32 - t, ?_, by omega, ?_, ?_⟩
  · unfold math_bits_LeadingZeros32
    rw [T.run_bind_of t1, T.run_ret, w64_in (by omega) (by omega)]
    congr 1; omega
  · have := Nat.mul_le_mul_right (2 ^ (32 - t)) t4
    rw [← Nat.pow_add, show t - 1 + (32 - t) = 31 by omega] at this
    exact this
  · have := Nat.mul_lt_mul_of_pos_right t5 (show 0 < 2 ^ (32 - t) from Nat.pow_pos (by omega))
    rw [← Nat.pow_add, show t + (32 - t) = 32 by omega] at this
    exact this
end Go.AM.Lf
