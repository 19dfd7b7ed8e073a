/-
  Plain laws of the lifted program: P3c.
-/
import Derived.Test.YtgfadkdgifpddaaQP3b
set_option linter.unusedVariables false
namespace Go.AM.Lf
open PL
theorem to_step (x l P v : Nat) : (x * 4294967296 + l) * P + v = x * (P * 4294967296) + (v + P * l) := by grind
theorem ref1_To_run (a : List Int) (ha : limbs a) (la : a.length ≤ 1000000000) : (ref1_To a).run = some (if nv a < 18446744073709551616 then ((nv a : Int), true) else (0, false)) := by
  unfold ref1_To
  rw [T.run_bind_of (rTrim_run a ha (by omega))]
  generalize nv a = A
  have h2 := @ofN_len_le A 2
  have hp : (4294967296 : Nat) ^ 2 = 18446744073709551616 := by decide
  rw [hp] at h2
  by_cases c : A < 18446744073709551616
  · have hl := h2.2 c
    rw [if_pos c, T.run_ite_f (by simp; omega)]
    have h3 := ofN_pos (n := A)
    have key : ∀ n : Nat, n ≤ (ofN A).length → ∀ x : Nat, x < 4294967296 ^ (2 - n) → (ref1_To_L0 (ofN A) ((x : Int), (n : Int) - 1)).run = some ((x * 4294967296 ^ n + nv ((ofN A).take n) : Nat) : Int) := by
      intro n
      induction n with
      | zero =>
        intro _ x hx
        refine T.loop_done ?_
        simp [ref1_To_R0]
      | succ n ih =>
        intro hn x hx
        have hx1 : x < 4294967296 := by
          have : (4294967296 : Nat) ^ (2 - (n + 1)) ≤ 4294967296 ^ 1 := Nat.pow_le_pow_right (by omega) (by omega)
          omega
        have e1 : ((n + 1 : Nat) : Int) - 1 = (n : Int) := by omega
        have e2 : w64 ((n : Int) - 1) = (n : Int) - 1 := w64_in (by omega) (by omega)
        have hl2 := lm_lt (limbs_ofN A) n
        have e3 := hilo2 (x := (x : Int)) (y := (lm (ofN A) n : Int)) (by omega) (by omega) (by omega) (by omega)
        have hs : (ref1_To_R0 (ofN A) ((x : Int), (n : Int))).run = some (.inl (((x * 4294967296 + lm (ofN A) n : Nat) : Int), (n : Int) - 1)) := by
          unfold ref1_To_R0
          simp (disch := omega) [nth_lm (limbs_ofN A), e2, e3]
        rw [e1]
        refine (T.loop_step hs).trans ?_
        have hn2 : n + 1 ≤ 2 := by omega
        have hlt : x * 4294967296 + lm (ofN A) n < 4294967296 ^ (2 - n) := by
          have e4 : (4294967296 : Nat) ^ (2 - n) = 4294967296 ^ (2 - (n + 1)) * 4294967296 := by
            rw [← Nat.pow_succ]; congr 1; omega
          rw [e4]
          have := Nat.mul_le_mul_right 4294967296 (show x + 1 ≤ 4294967296 ^ (2 - (n + 1)) from hx)
          omega
        refine (ih (by omega) _ hlt).trans ?_
        rw [nv_take_lm, Nat.pow_succ]
        have e5 := to_step x (lm (ofN A) n) (4294967296 ^ n) (nv ((ofN A).take n))
        rw [e5]
    have := key (ofN A).length (Nat.le_refl _) 0 (Nat.pow_pos (by omega))
    rw [List.take_length, nv_ofN] at this
    rw [w64_in (by omega) (by omega)]
    simp only [Nat.zero_mul, Nat.zero_add, Int.natCast_zero] at this
    rw [T.run_bind_of (by simpa using this), T.run_ret]
  · rw [if_neg c, T.run_ite_t (by simp; omega), T.run_ret]

theorem add_carry {c x y : Nat} (hc : c ≤ 1) (hx : x < 4294967296) (hy : y < 4294967296) : wu64 (wu64 ((c : Int) + x) + y) = ((c + x + y : Nat) : Int) := by
  rw [wu64_in (x := (c : Int) + x) (by omega) (by omega), wu64_in (by omega) (by omega)]; omega
theorem lo32 (n : Nat) : wu32 (n : Int) = ((n % 4294967296 : Nat) : Int) := by rw [wu32_mod]; omega
theorem hi32 (n : Nat) : shrI .u64 (n : Int) 32 = ((n / 4294967296 : Nat) : Int) := by rw [shr32 (by omega)]; omega
theorem carry_step {P X c a b p q : Nat} (h : X + c * P = a + b) : X + P * ((c + p + q) % 4294967296) + (c + p + q) / 4294967296 * (P * 4294967296) = (a + P * p) + (b + P * q) := by
  have e : (c + p + q) = (c + p + q) % 4294967296 + 4294967296 * ((c + p + q) / 4294967296) := by omega
  generalize (c + p + q) % 4294967296 = lo at *
  generalize (c + p + q) / 4294967296 = hi at *
  have e2 : P * (c + p + q) = P * (lo + 4294967296 * hi) := by rw [e]
  simp only [Nat.mul_add] at e2
  rw [Nat.mul_comm c P] at h
  have e3 : hi * (P * 4294967296) = P * (4294967296 * hi) := by rw [Nat.mul_comm hi, Nat.mul_assoc]
  omega
theorem nat_Add_run (a b : List Int) (ha : limbs a) (hb : limbs b) (la : a.length ≤ 1000000000) (lb : b.length ≤ 1000000000) : (nat_Add a b).run = some (ofN (nv a + nv b)) := by
  have qa := ofN_nv_len ha
  have qb := ofN_nv_len hb
  unfold nat_Add
  rw [T.run_bind_of (trim_run a ha (by omega)), T.run_bind_of (trim_run b hb (by omega))]
  generalize nv a = A at *
  generalize nv b = B at *
  obtain ⟨x, y, hxy, lx, ly, le, hsw, hsw2⟩ : ∃ x y : List Int, (nv x + nv y = A + B) ∧ limbs x ∧ limbs y ∧ (y.length ≤ x.length ∧ x.length ≤ 1000000000) ∧
      (bif decide (((ofN A).length : Int) < ((ofN B).length : Int)) then ofN B else ofN A) = x ∧ (bif decide (((ofN A).length : Int) < ((ofN B).length : Int)) then ofN A else ofN B) = y := by
    by_cases c : (ofN A).length < (ofN B).length
    · exact ⟨ofN B, ofN A, by simp; omega, limbs_ofN _, limbs_ofN _, ⟨by omega, by omega⟩, by simp [c], by simp [c]⟩
    · exact ⟨ofN A, ofN B, by simp, limbs_ofN _, limbs_ofN _, ⟨by omega, by omega⟩, by simp [c], by simp [c]⟩
  rw [hsw, hsw2]
  obtain ⟨le1, le2⟩ := le
  have ew : w64 ((x.length : Int) + 1) = ((x.length + 1 : Nat) : Int) := by rw [w64_in (by omega) (by omega)]; omega
  rw [ew]
  simp only [Int.toNat_natCast, List.length_replicate]
  have loop : ∃ r : Int × List Int, (nat_Add_L0 x y x (x.length : Int) (0, 0, List.replicate (x.length + 1) 0)).run = some r ∧ ∃ c : Nat, r.1 = (c : Int) ∧ c ≤ 1 ∧ limbs r.2 ∧ r.2.length = x.length + 1 ∧ nv (r.2.take x.length) + c * 4294967296 ^ x.length = nv x + nv y := by
    refine T.loop_post (fun s : Int × Int × List Int => ∃ (c i : Nat), s.1 = (c : Int) ∧ s.2.1 = (i : Int) ∧ c ≤ 1 ∧ i ≤ x.length ∧ limbs s.2.2 ∧ s.2.2.length = x.length + 1 ∧ nv (s.2.2.take i) + c * 4294967296 ^ i = nv (x.take i) + nv (y.take i))
      (fun s => x.length - s.2.1.toNat) _ ?_ ⟨0, 0, rfl, rfl, by omega, by omega, limbs_replicate _, by simp, by simp⟩
    rintro ⟨_, _, xs⟩ ⟨c, i, rfl, rfl, hc, hi, hl, hn, hv⟩
    simp only at hl hn hv ⊢
    by_cases hlt : i < x.length
    · left
      have hx := lm_lt lx i
      have hy := lm_lt ly i
      have hsum : (bif decide ((i : Int) < (y.length : Int)) then wu64 (wu64 ((c : Int) + wu64 (lm x i : Int)) + wu64 (nth y (i : Int) 0)) else wu64 ((c : Int) + wu64 (lm x i : Int))) = ((c + lm x i + lm y i : Nat) : Int) := by
        rw [nth_lm ly, wu64_in (x := (lm x i : Int)) (by omega) (by omega), wu64_in (x := (lm y i : Int)) (by omega) (by omega)]
        by_cases q : i < y.length
        · rw [show decide ((i : Int) < (y.length : Int)) = true by simpa using q, cond_true, add_carry hc hx hy]
        · rw [show decide ((i : Int) < (y.length : Int)) = false by simpa using q, cond_false, lm_ge (a := y) (by omega), wu64_in (by omega) (by omega)]; omega
      have ei : w64 ((i : Int) + 1) = ((i + 1 : Nat) : Int) := by rw [w64_in (by omega) (by omega)]; omega
      refine ⟨((((c + lm x i + lm y i) / 4294967296 : Nat) : Int), ((i + 1 : Nat) : Int), xs.set i (((c + lm x i + lm y i) % 4294967296 : Nat) : Int)), ?_, ⟨_, i + 1, rfl, rfl, by omega, by omega, limbs_set hl _ (by omega) (by omega), by simpa using hn, ?_⟩, by simp; omega⟩
      · unfold nat_Add_R0
        simp only [dflt_u32, nth_lm lx, hsum, lo32, hi32, ei]
        simp (disch := omega) [hlt, hn]
        rw [T.run_obl (fun hq => ⟨by omega, by omega⟩)]
        simp (disch := omega) [hlt, hn]
      · simp only
        rw [nv_set_take _ (by omega), nv_take_lm, nv_take_lm, Nat.pow_succ, Int.toNat_natCast]
        exact carry_step hv
    · right
      have hi2 : i = x.length := by omega
      subst hi2
      refine ⟨((c : Int), xs), ?_, c, rfl, hc, hl, hn, ?_⟩
      · unfold nat_Add_R0
        simp
      · simpa [List.take_length, nv_take_all le1] using hv
  obtain ⟨⟨_, xs⟩, hr, c, rfl, hc, hl, hn, hv⟩ := loop
  simp only at hl hn hv
  rw [T.run_mk _ (by omega) (by omega) (by omega) (by omega), T.run_cur _ rfl rfl rfl, T.run_true, T.run_bind_of hr]
  simp only [Int.toNat_natCast, Nat.zero_add, List.drop_zero, lo32]
  rw [T.run_idx _ (by omega) (by omega), T.run_e _ rfl (by omega), T.run_true]
  have e1 : (xs.set x.length ((c % 4294967296 : Nat) : Int)).take xs.length = xs.set x.length ((c % 4294967296 : Nat) : Int) := List.take_of_length_le (by simp)
  rw [e1]
  have h3 := trim_run (xs.set x.length ((c % 4294967296 : Nat) : Int)) (limbs_set hl _ (by omega) (by omega)) (by simp; omega)
  rw [T.run_bind_of h3, T.run_ret]
  have e2 := nv_set_take (a := xs) (i := x.length) ((c % 4294967296 : Nat) : Int) (by omega)
  rw [nv_take_all (by simp; omega)] at e2
  rw [e2, Int.toNat_natCast, Nat.mod_eq_of_lt (by omega), Nat.mul_comm, hv, hxy]
end Go.AM.Lf
