/-
  Plain laws of the lifted program: P3q.
-/
import Derived.Test.YtgfadkdgifpddaaQP3p
set_option linter.unusedVariables false
namespace Go.AM.Lf
open PL
theorem ofN_top {A : Nat} (k : Nat) (h : (ofN A).length = k + 1) : lm (ofN A) k ≠ 0 := by
  intro hz
  have h1 := nv_take_lm (ofN A) k
  rw [nv_take_all (by omega), hz, Nat.mul_zero, Nat.add_zero, nv_ofN] at h1
  have h2 := nv_take_lt (limbs_ofN A) k
  have := ofN_len_le.2 (show A < 4294967296 ^ k by omega)
  omega
theorem nat_DivMod_run (a b : List Int) (ha : limbs a) (hb : limbs b) (la : a.length ≤ 100000000) (lb : b.length ≤ 100000000) :
    (nat_DivMod a b).run = some (if nv b = 0 then ([], [], false) else (ofN (nv a / nv b), ofN (nv a % nv b), true)) := by
  have qa := ofN_nv_len ha
  have qb := ofN_nv_len hb
  unfold nat_DivMod
  rw [T.run_bind_of (trim_run a ha (by omega)), T.run_bind_of (trim_run b hb (by omega))]
  generalize nv a = A at *
  generalize nv b = B at *
  by_cases hB : B = 0
  · subst hB
    rw [ofN_zero]; simp
  · have hne : (ofN B).length ≠ 0 := by
      intro h
      exact hB (ofN_eq_nil.1 (List.eq_nil_of_length_eq_zero h))
    rw [if_neg hB, T.run_ite_f (by simpa using hne), T.run_bind_of (nat_Cmp_run _ _ (limbs_ofN A) (limbs_ofN B) (by omega) (by omega)), nv_ofN, nv_ofN]
    by_cases hlt : A < B
    · rw [T.run_ite_t (by unfold cmpI; rw [if_pos hlt]; rfl), T.run_bind_of (Trim_run _ (limbs_ofN A) (by omega)), T.run_ret, nv_ofN, Nat.div_eq_of_lt hlt, Nat.mod_eq_of_lt hlt, ofN_zero]
    · rw [T.run_ite_f (by unfold cmpI; rw [if_neg hlt]; split <;> simp)]
      by_cases h1 : (ofN B).length = 1
      · -- by one limb
        have hb1 : ofN B = [(B : Int)] := by
          rw [ofN_pos hB] at h1 ⊢
          have : B / 4294967296 = 0 := by
            have : (ofN (B / 4294967296)).length = 0 := by simpa using h1
            exact ofN_eq_nil.1 (List.eq_nil_of_length_eq_zero this)
          rw [this, ofN_zero]
          congr 1; omega
        have hBl : B < 4294967296 := by
          have := ofN_len_le.1 (Nat.le_of_eq h1)
          simpa using this
        have e0 : nth (ofN B) 0 0 = (B : Int) := by rw [hb1]; rfl
        have hm := Nat.mod_lt A (Nat.pos_of_ne_zero hB)
        have hs := nat_small_run (ofN A) (limbs_ofN A) (by omega) B (by omega) hBl
        rw [nv_ofN] at hs
        rw [T.run_ite_t (by rw [h1]; rfl), T.run_idx _ (by omega) (by omega)]
        simp only [dflt_u32, e0]
        rw [T.run_bind_of hs]
        simp only [wu64n (show A % B < 18446744073709551616 by omega)]
        rw [T.run_bind_of (nat_Of_run _ (by omega)), T.run_ret]
      · obtain ⟨n, hn⟩ : ∃ n, (ofN B).length = n + 2 := ⟨(ofN B).length - 2, by omega⟩
        have hle : (ofN B).length ≤ (ofN A).length := by
          rcases Nat.lt_or_ge (ofN A).length (ofN B).length with h | h
          · exact absurd (len_lt_nv h) hlt
          · exact h
        have hl := nat_long_run (ofN A) (ofN B) (limbs_ofN A) (limbs_ofN B) (by omega) n hn hle (ofN_top (n + 1) (by omega))
        rw [nv_ofN, nv_ofN] at hl
        rw [T.run_ite_f (by simp; omega), T.run_bind_of hl, T.run_ret]
theorem nat_Gcd_run (a b : List Int) (ha : limbs a) (hb : limbs b) (la : a.length ≤ 100000000) (lb : b.length ≤ 100000000) : (nat_Gcd a b).run = some (ofN (Nat.gcd (nv a) (nv b))) := by
  have qa := ofN_nv_len ha
  have qb := ofN_nv_len hb
  unfold nat_Gcd
  rw [T.run_bind_of (Trim_run a ha (by omega)), T.run_bind_of (Trim_run b hb (by omega))]
  generalize nv a = A at *
  generalize nv b = B at *
  have key : (nat_Gcd_L0 (ofN A, ofN B)).run = some (ofN (Nat.gcd A B)) := by
    have := T.loop_run (r := nat_Gcd_R0) (fun s : List Int × List Int => ∃ A B : Nat, s = (ofN A, ofN B) ∧ (ofN A).length ≤ 100000000 ∧ (ofN B).length ≤ 100000000)
      (fun s => nv s.2) (fun s => ofN (Nat.gcd (nv s.1) (nv s.2))) ?_ (s := (ofN A, ofN B)) ⟨A, B, rfl, by omega, by omega⟩
    · rw [nv_ofN, nv_ofN] at this; exact this
    · rintro _ ⟨A, B, rfl, hA, hB'⟩
      simp only [nv_ofN]
      by_cases hB : B = 0
      · right
        subst hB
        unfold nat_Gcd_R0
        rw [ofN_zero]; simp
      · left
        have hd := nat_DivMod_run (ofN A) (ofN B) (limbs_ofN A) (limbs_ofN B) hA hB'
        rw [nv_ofN, nv_ofN, if_neg hB] at hd
        have hm := Nat.mod_lt A (Nat.pos_of_ne_zero hB)
        have hne : (ofN B).length ≠ 0 := fun h => hB (ofN_eq_nil.1 (List.eq_nil_of_length_eq_zero h))
        refine ⟨(ofN B, ofN (A % B)), ?_, ⟨B, A % B, rfl, hB', ?_⟩, by simpa using hm, ?_⟩
        · unfold nat_Gcd_R0
          rw [T.run_ite_t (by simp; omega), T.run_bind_of hd, T.run_ret]
        · have : (ofN (A % B)).length ≤ (ofN B).length := ofN_len_le.2 (Nat.lt_trans hm (ofN_len_le.1 (Nat.le_refl _)))
          omega
        · simp only [nv_ofN]
          rw [Nat.gcd_comm, ← Nat.gcd_rec, Nat.gcd_comm]
  rw [T.run_bind_of key, T.run_ret]
/-! ### The reference's: bit by bit -/
theorem lm_eq {a : List Int} (ha : limbs a) (j : Nat) : lm a j = nv a / 4294967296 ^ j % 4294967296 := by
  by_cases h : j < a.length
  · have h1 := nv_split a j (by omega)
    have h2 := nv_take_lt ha j
    have h3 := lm_drop (a := a) h
    have h4 := lm_lt ha j
    have h5 : nv a / 4294967296 ^ j = nv (a.drop j) := by
      refine (congrArg (· / 4294967296 ^ j) h1).trans ?_
      rw [Nat.add_mul_div_left _ _ (pow_pos' _), Nat.div_eq_of_lt h2, Nat.zero_add]
    rw [h5, h3]; omega
  · rw [lm_ge (by omega)]
    have h1 := nv_lt ha
    have h2 : 4294967296 ^ a.length ≤ 4294967296 ^ j := Nat.pow_le_pow_right (by omega) (by omega)
    rw [Nat.div_eq_of_lt (by omega)]
theorem bit_of {a : List Int} (ha : limbs a) (i : Nat) : lm a (i / 32) / 2 ^ (i % 32) % 2 = nv a / 2 ^ i % 2 := by
  rw [lm_eq ha, ← pow32 i]
  generalize hs : i % 32 = s
  have hs2 : s < 32 := by omega
  rw [← Nat.div_div_eq_div_mul]
  generalize nv a / 4294967296 ^ (i / 32) = z
  have e : 4294967296 = 2 ^ s * 2 ^ (32 - s) := by rw [Nat.mul_comm]; exact pow_split s (by omega)
  rw [e, Nat.mod_mul_right_div_self]
  have e2 : 2 ∣ 2 ^ (32 - s) := ⟨2 ^ (31 - s), by rw [← Nat.pow_succ']; congr 1; omega⟩
  exact Nat.mod_mod_of_dvd _ e2
end Go.AM.Lf
