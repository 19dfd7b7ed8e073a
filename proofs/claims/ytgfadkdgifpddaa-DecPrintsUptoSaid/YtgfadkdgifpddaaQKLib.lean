/-
  Plain laws of the lifted program: KLib.
-/
import Derived.Test.YtgfadkdgifpddaaQNLib
set_option linter.unusedVariables false
/- Knuth's guess, in numbers. -/
namespace Go.AM.PL
theorem distr1 (q a b c : Nat) : q * (a * c + b) = (q * a) * c + q * b := by grind
theorem distr2 (a b : Nat) : (a + 1) * b = a * b + b := by grind
theorem distr3 (a b c : Nat) : (a + b) * c = a * c + b * c := by grind
theorem guess_up {u2 u1 u0 v1 v2 q r : Nat} (hr : q * v1 + r = u2 * 4294967296 + u1) (h : q * v2 ≤ r * 4294967296 + u0) :
    q * (v1 * 4294967296 + v2) ≤ u2 * 18446744073709551616 + u1 * 4294967296 + u0 := by
  rw [distr1]
  generalize q * v1 = x at *
  generalize q * v2 = y at *
  omega
theorem guess_dn {u2 u1 u0 v1 v2 q r : Nat} (hr : q * v1 + r = u2 * 4294967296 + u1) (h : r * 4294967296 + u0 < q * v2) :
    u2 * 18446744073709551616 + u1 * 4294967296 + u0 < q * (v1 * 4294967296 + v2) := by
  rw [distr1]
  generalize q * v1 = x at *
  generalize q * v2 = y at *
  grind
/-- q is above what fits, once the test says so. -/
theorem guess_gt {U V q : Nat} (hV : 0 < V) (h : U < q * V) : U / V < q := (Nat.div_lt_iff_lt_mul hV).2 h
theorem guess_init {u2 u1 u0 v1 v2 : Nat} (hv : 0 < v1) (hu0 : u0 < 4294967296) : (u2 * 18446744073709551616 + u1 * 4294967296 + u0) / (v1 * 4294967296 + v2) ≤ (u2 * 4294967296 + u1) / v1 := by
  rw [Nat.le_div_iff_mul_le hv]
  have h := Nat.div_mul_le_self (u2 * 18446744073709551616 + u1 * 4294967296 + u0) (v1 * 4294967296 + v2)
  generalize (u2 * 18446744073709551616 + u1 * 4294967296 + u0) / (v1 * 4294967296 + v2) = q at *
  have e := distr1 q v1 v2 4294967296
  rw [e] at h; omega
theorem guess_top {u2 u1 u0 v1 v2 : Nat} (hv : 2147483648 ≤ v1) (hv2 : v2 < 4294967296) (h : u2 * 18446744073709551616 + u1 * 4294967296 + u0 < (v1 * 4294967296 + v2 + 1) * 4294967296) :
    (u2 * 4294967296 + u1) ≤ v1 * 4294967296 + v2 ∧ (u2 * 4294967296 + u1) / v1 ≤ 4294967297 := by
  have h1 : u2 * 4294967296 + u1 ≤ v1 * 4294967296 + v2 := by omega
  refine ⟨h1, ?_⟩
  rw [Nat.div_le_iff_le_mul (by omega)]
  omega
/-- What is guessed against what is sought. -/
theorem guess_q {U V D U3 V2 X Y q : Nat} (hU : U = U3 * D + X) (hX : X < D) (hV : V = V2 * D + Y) (hY : Y < D) (hVt : 2147483648 * 4294967296 ≤ V2) (hUV : U < V * 4294967296) (hq : q = min (U3 / V2) 4294967295) :
    U / V ≤ q ∧ q ≤ U / V + 1 := by
  have hD : 0 < D := by omega
  have hV2 : 0 < V2 := by omega
  have hVp : 0 < V := by rw [hV]; have := Nat.mul_pos hV2 hD; omega
  constructor
  · rw [hq, Nat.le_min]
    constructor
    · rw [Nat.le_div_iff_mul_le hV2]
      have h := Nat.div_mul_le_self U V
      generalize U / V = z at *
      rw [hV, hU] at h
      have e := distr1 z V2 Y D
      rw [e] at h
      have h2 : (z * V2) * D < (U3 + 1) * D := by 
        rw [distr2]
        generalize z * V2 * D = m at *
        generalize z * Y = m2 at *
        omega
      exact Nat.lt_succ_iff.1 (Nat.lt_of_mul_lt_mul_right h2)
    · have : U / V < 4294967296 := (Nat.div_lt_iff_lt_mul hVp).2 (by rw [Nat.mul_comm]; exact hUV)
      omega
  · have h3 : q ≤ U3 / V2 := by omega
    have h4 : q ≤ 4294967295 := by omega
    have h5 : q * V2 ≤ U3 := (Nat.le_div_iff_mul_le hV2).1 h3
    cases q with
    | zero => exact Nat.zero_le _
    | succ q =>
      have : q ≤ U / V := by
        rw [Nat.le_div_iff_mul_le hVp, hV, hU]
        have e := distr1 q V2 Y D
        have e2 := distr2 q V2
        have h6 : (q * V2 + V2) * D ≤ U3 * D := Nat.mul_le_mul_right D (by omega)
        have e3 := distr3 (q * V2) V2 D
        have h7 : q * Y ≤ 4294967295 * D := Nat.mul_le_mul (by omega) (by omega)
        have h8 : 4294967295 * D ≤ V2 * D := Nat.mul_le_mul_right D (by omega)
        rw [e]; omega
      omega
end Go.AM.PL
