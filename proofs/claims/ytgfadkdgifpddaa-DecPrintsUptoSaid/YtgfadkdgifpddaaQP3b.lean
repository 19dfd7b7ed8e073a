/-
  Plain laws of the lifted program: P3b.
-/
import Derived.Test.YtgfadkdgifpddaaQP3a
set_option linter.unusedVariables false
namespace Go.AM.Lf
open PL
theorem nat_Of_run (n : Nat) (h : n < 18446744073709551616) : (nat_Of (n : Int)).run = some (ofN n) := by
  have e2 : wu32 (shrI .u64 (n : Int) 32) = ((n / 4294967296 : Nat) : Int) := by rw [shr32 (by omega), wu32_mod]; omega
  have e1 : wu32 (n : Int) = ((n % 4294967296 : Nat) : Int) := by rw [wu32_mod]; omega
  have h1 : limbs [((n % 4294967296 : Nat) : Int), ((n / 4294967296 : Nat) : Int)] := by
    intro x hx; simp only [List.mem_cons, List.not_mem_nil, or_false] at hx; rcases hx with rfl | rfl <;> omega
  have h2 := trim_run _ h1 (by simp)
  have h3 : nv [((n % 4294967296 : Nat) : Int), ((n / 4294967296 : Nat) : Int)] = n := by simp only [nv_cons, nv_nil]; omega
  unfold nat_Of
  rw [T.run_leI _ (by omega), e1, e2, T.run_bind_of h2, h3, T.run_ret]
theorem ref1_Of_run (n : Nat) (h : n < 18446744073709551616) : (ref1_Of (n : Int)).run = some (ofN n) := by
  have e2 : wu32 (shrI .u64 (n : Int) 32) = ((n / 4294967296 : Nat) : Int) := by rw [shr32 (by omega), wu32_mod]; omega
  have e1 : wu32 (n : Int) = ((n % 4294967296 : Nat) : Int) := by rw [wu32_mod]; omega
  have h1 : limbs [((n % 4294967296 : Nat) : Int), ((n / 4294967296 : Nat) : Int)] := by
    intro x hx; simp only [List.mem_cons, List.not_mem_nil, or_false] at hx; rcases hx with rfl | rfl <;> omega
  have h2 := rTrim_run _ h1 (by simp)
  have h3 : nv [((n % 4294967296 : Nat) : Int), ((n / 4294967296 : Nat) : Int)] = n := by simp only [nv_cons, nv_nil]; omega
  unfold ref1_Of
  rw [T.run_leI _ (by omega), e1, e2, T.run_bind_of h2, h3, T.run_ret]

theorem nat_Cmp_run (a b : List Int) (ha : limbs a) (hb : limbs b) (la : a.length ≤ 1000000000) (lb : b.length ≤ 1000000000) : (nat_Cmp a b).run = some (cmpI (nv a) (nv b)) := by
  unfold nat_Cmp
  rw [T.run_bind_of (trim_run a ha (by omega)), T.run_bind_of (trim_run b hb (by omega))]
  have qa := ofN_nv_len ha
  have qb := ofN_nv_len hb
  generalize nv a = A at *
  generalize nv b = B at *
  by_cases hl : (ofN A).length = (ofN B).length
  · rw [hl, bne_self_eq_false, T.run_ite_false]
    have key := cmp_loop (r := nat_Cmp_R0 (ofN A) (ofN B)) (ofN A) (ofN B) (limbs_ofN A) (limbs_ofN B) hl (fun i hi => ?_) ?_
    · rw [← hl, w64_in (by omega) (by omega)]
      unfold nat_Cmp_L0
      rw [T.run_bind_of key, nv_ofN, nv_ofN]
      unfold cmpI
      by_cases p : A < B
      · simp [p]
      · by_cases q : B < A <;> simp [p, q]
    · have e : w64 ((i : Int) - 1) = (i : Int) - 1 := w64_in (by omega) (by omega)
      unfold nat_Cmp_R0
      have hi' : i < (ofN B).length := by omega
      have x1 := nth_lm (limbs_ofN A) i
      have x2 := nth_lm (limbs_ofN B) i
      rcases Nat.lt_trichotomy (lm (ofN A) i) (lm (ofN B) i) with c | c | c
      · have c2 : ¬ (lm (ofN A) i = lm (ofN B) i) := by omega
        simp (disch := omega) [e, x1, x2, c, c2, hi, hi'] <;> omega
      · simp (disch := omega) [e, x1, x2, c, hi, hi']
      · have c2 : ¬ (lm (ofN A) i = lm (ofN B) i) := by omega
        have c3 : ¬ (lm (ofN A) i < lm (ofN B) i) := by omega
        simp (disch := omega) [e, x1, x2, c, c2, c3, hi, hi'] <;> omega
    · simp [nat_Cmp_R0]
  · rw [T.run_ite_t (by simp; omega)]
    unfold cmpI
    by_cases c : (ofN A).length < (ofN B).length
    · have := len_lt_nv c
      simp [c, this]
    · have h2 := len_lt_nv (show (ofN B).length < (ofN A).length by omega)
      have h3 : ¬ A < B := by omega
      simp [c, h2, h3]
theorem ref1_Cmp_run (a b : List Int) (ha : limbs a) (hb : limbs b) (la : a.length ≤ 1000000000) (lb : b.length ≤ 1000000000) : (ref1_Cmp a b).run = some (cmpI (nv a) (nv b)) := by
  unfold ref1_Cmp
  rw [T.run_bind_of (rTrim_run a ha (by omega)), T.run_bind_of (rTrim_run b hb (by omega))]
  have qa := ofN_nv_len ha
  have qb := ofN_nv_len hb
  generalize nv a = A at *
  generalize nv b = B at *
  by_cases hl : (ofN A).length = (ofN B).length
  · rw [hl, bne_self_eq_false, T.run_ite_false]
    have key := cmp_loop (r := ref1_Cmp_R0 (ofN A) (ofN B)) (ofN A) (ofN B) (limbs_ofN A) (limbs_ofN B) hl (fun i hi => ?_) ?_
    · rw [← hl, w64_in (by omega) (by omega)]
      unfold ref1_Cmp_L0
      rw [T.run_bind_of key, nv_ofN, nv_ofN]
      unfold cmpI
      by_cases p : A < B
      · simp [p]
      · by_cases q : B < A <;> simp [p, q]
    · have e : w64 ((i : Int) - 1) = (i : Int) - 1 := w64_in (by omega) (by omega)
      unfold ref1_Cmp_R0
      have hi' : i < (ofN B).length := by omega
      have x1 := nth_lm (limbs_ofN A) i
      have x2 := nth_lm (limbs_ofN B) i
      rcases Nat.lt_trichotomy (lm (ofN A) i) (lm (ofN B) i) with c | c | c
      · have c2 : ¬ (lm (ofN A) i = lm (ofN B) i) := by omega
        simp (disch := omega) [e, x1, x2, c, c2, hi, hi'] <;> omega
      · simp (disch := omega) [e, x1, x2, c, hi, hi']
      · have c2 : ¬ (lm (ofN A) i = lm (ofN B) i) := by omega
        have c3 : ¬ (lm (ofN A) i < lm (ofN B) i) := by omega
        simp (disch := omega) [e, x1, x2, c, c2, c3, hi, hi'] <;> omega
    · simp [ref1_Cmp_R0]
  · rw [T.run_ite_t (by simp; omega)]
    unfold cmpI
    by_cases c : (ofN A).length < (ofN B).length
    · have := len_lt_nv c
      simp [c, this]
    · have h2 := len_lt_nv (show (ofN B).length < (ofN A).length by omega)
      have h3 : ¬ A < B := by omega
      simp [c, h2, h3]
theorem ref1_at_run (a : List Int) (ha : limbs a) (i : Nat) : (ref1_at a (i : Int)).run = some (lm a i : Int) := by
  unfold ref1_at
  have := lm_lt ha i
  by_cases h : i < a.length
  · rw [T.run_ite_t (by simpa using h), T.run_idx _ (by omega) (by omega), T.run_ret, dflt_u32, nth_lm ha, wu64_in (by omega) (by omega)]
  · rw [T.run_ite_f (by simpa using h), T.run_ret, lm_ge (by omega)]; rfl
end Go.AM.Lf
