/-
  Plain laws of the lifted program: P3g.
-/
import Derived.Test.YtgfadkdgifpddaaQP3f
set_option linter.unusedVariables false
namespace Go.AM.Lf
open PL
/-! ### Shifts -/
theorem shlI64 {v s : Nat} (hv : v < 4294967296) (hs : s ≤ 32) : shlI .u64 (v : Int) (s : Int) = ((v * 2 ^ s : Nat) : Int) := by
  have h1 : 2 ^ s ≤ 2 ^ 32 := Nat.pow_le_pow_right (by omega) hs
  have h2 : v * 2 ^ s ≤ 4294967295 * 4294967296 := Nat.mul_le_mul (by omega) h1
  have e : min (s : Int).toNat 64 = s := by simp; omega
  show wu64 ((v : Int) * 2 ^ (min (s : Int).toNat 64)) = _
  rw [e]
  have e2 : (v : Int) * 2 ^ s = ((v * 2 ^ s : Nat) : Int) := by simp
  rw [e2, wu64n (by omega)]
theorem shrI64 {v s : Nat} (hs : s ≤ 64) : shrI .u64 (v : Int) (s : Int) = ((v / 2 ^ s : Nat) : Int) := by
  have e : min (s : Int).toNat 64 = s := by simp; omega
  show Int.fdiv (v : Int) (2 ^ (min (s : Int).toNat 64)) = _
  rw [e]
  have e2 : (2 : Int) ^ s = ((2 ^ s : Nat) : Int) := by simp
  rw [e2, Int.fdiv_eq_ediv_of_nonneg _ (Int.natCast_nonneg _)]; rfl
theorem or_low {h m s : Nat} (hh : h < 2 ^ s) : h ||| m * 2 ^ s = h + m * 2 ^ s := by rw [Nat.or_comm, or_add m h s hh, Nat.add_comm]
theorem mod_pow_mul (v s : Nat) (hs : s ≤ 32) : v * 2 ^ s % 4294967296 = (v % 2 ^ (32 - s)) * 2 ^ s := by
  have e : (4294967296 : Nat) = 2 ^ (32 - s) * 2 ^ s := by rw [← Nat.pow_add]; rw [show 32 - s + s = 32 by omega]
  rw [e, Nat.mul_mod_mul_right]
/-- One limb more of a row that is shifted left. -/
theorem left_step {h v s : Nat} (hh : h < 2 ^ s) (hv : v < 4294967296) (hs : s < 32) :
    orI .u32 (h : Int) (wu32 ((v * 2 ^ s : Nat) : Int)) = ((h + v * 2 ^ s % 4294967296 : Nat) : Int) ∧ h + v * 2 ^ s % 4294967296 < 4294967296 ∧ v * 2 ^ s / 4294967296 < 2 ^ s := by
  have h1 : 2 ^ s ≤ 2 ^ 31 := Nat.pow_le_pow_right (by omega) (by omega)
  have e1 := mod_pow_mul v s (by omega)
  have e2 : (v % 2 ^ (32 - s)) * 2 ^ s + 2 ^ s ≤ 4294967296 := by
    have : v % 2 ^ (32 - s) + 1 ≤ 2 ^ (32 - s) := Nat.mod_lt _ (Nat.pow_pos (by omega))
    have := Nat.mul_le_mul_right (2 ^ s) this
    rw [← Nat.pow_add, show 32 - s + s = 32 by omega] at this
    rw [Nat.add_mul] at this
    omega
  refine ⟨?_, by rw [e1]; omega, ?_⟩
  · rw [lo32, orI_u32 (by omega) (by omega), e1, or_low hh]
  · rw [Nat.div_lt_iff_lt_mul (by omega), Nat.mul_comm]
    exact Nat.mul_lt_mul_of_pos_left hv (Nat.pow_pos (by omega))
theorem left_alg {X h P V v t A : Nat} (hv : X + h * P = V * t) (hA : A = v * t) : X + P * (h + A % 4294967296) + A / 4294967296 * (P * 4294967296) = (V + P * v) * t := by
  have e : A = A % 4294967296 + 4294967296 * (A / 4294967296) := by omega
  generalize A % 4294967296 = lo at *
  generalize A / 4294967296 = hi at *
  have e2 : X + P * (h + lo) + hi * (P * 4294967296) = (X + h * P) + P * (lo + 4294967296 * hi) := by grind
  rw [e2, hv, ← e, hA]; grind
theorem left_loop (a : List Int) (ha : limbs a) (la : a.length ≤ 1000000000) (s n : Nat) (hs : s < 32) (hn1 : a.length ≤ n) (hn2 : n ≤ a.length + 1) (hfit : nv a * 2 ^ s < 4294967296 ^ n) :
    ∃ r, (nat_left_L0 (s : Int) (n : Int) a (a.length : Int) (0, List.replicate n 0)).run = some r ∧ limbs r ∧ r.length = n ∧ nv r = nv a * 2 ^ s := by
  refine T.loop_post (fun z : Int × List Int => ∃ i h : Nat, z.1 = (i : Int) ∧ i ≤ a.length ∧ limbs z.2 ∧ z.2.length = n ∧ h < 2 ^ s ∧ (i < n → lm z.2 i = h) ∧ nv (z.2.take i) + h * 4294967296 ^ i = nv (a.take i) * 2 ^ s)
    (fun z => a.length - z.1.toNat) _ ?_ ⟨0, 0, rfl, by omega, limbs_replicate _, by simp, Nat.pow_pos (by omega), fun _ => ?_, by simp⟩
  · rintro ⟨_, xs⟩ ⟨i, h, rfl, hi, hl, hn, hh, hli, hv⟩
    simp only at hl hn hli hv ⊢
    by_cases hlt : i < a.length
    · left
      have hx := lm_lt ha i
      obtain ⟨s1, s2, s3⟩ := left_step hh hx hs
      have hb : wu64 (lm a i : Int) = lm a i := wu64n (by omega)
      have hlx := hli (by omega)
      have hp : 2 ^ s ≤ 2 ^ 31 := Nat.pow_le_pow_right (by omega) (by omega)
      have e2 : wu32 ((lm a i * 2 ^ s / 4294967296 : Nat) : Int) = ((lm a i * 2 ^ s / 4294967296 : Nat) : Int) := wu32n (by omega)
      by_cases hin : i + 1 < n
      all_goals have hin' : ((i : Int) + 1 < (n : Int)) ↔ (i + 1 < n) := by omega
      · refine ⟨(((i + 1 : Nat) : Int), (xs.set i ((h + lm a i * 2 ^ s % 4294967296 : Nat) : Int)).set (i + 1) ((lm a i * 2 ^ s / 4294967296 : Nat) : Int)), ?_,
          ⟨i + 1, lm a i * 2 ^ s / 4294967296, rfl, by omega, limbs_setN (limbs_setN hl _ s2) _ (by omega), by simpa using hn, s3, fun _ => ?_, ?_⟩, by simp; omega⟩
        · unfold nat_left_R0
          simp only [dflt_u32, nth_lm ha, Int.toNat_natCast, Nat.zero_add, nthN_lm hl, hb, shlI64 hx (show s ≤ 32 by omega), hlx, s1, i1 i (by omega), hi32, e2]
          simp (disch := omega) [hlt, hn, hin, hin']
        · simp only
          rw [lm_set (by simp; omega), if_pos rfl, Int.toNat_natCast]
        · simp only
          rw [take_set_lt _ _ _ _ (Nat.le_refl _), nv_set_take _ (by omega), nv_take_lm, Int.toNat_natCast, Nat.pow_succ]
          exact left_alg hv rfl
      · refine ⟨(((i + 1 : Nat) : Int), xs.set i ((h + lm a i * 2 ^ s % 4294967296 : Nat) : Int)), ?_,
          ⟨i + 1, lm a i * 2 ^ s / 4294967296, rfl, by omega, limbs_setN hl _ s2, by simpa using hn, s3, fun _ => by omega, ?_⟩, by simp; omega⟩
        · unfold nat_left_R0
          simp only [dflt_u32, nth_lm ha, Int.toNat_natCast, Nat.zero_add, nthN_lm hl, hb, shlI64 hx (show s ≤ 32 by omega), hlx, s1, i1 i (by omega), hi32, e2]
          simp (disch := omega) [hlt, hn, hin, hin']
        · simp only
          rw [nv_set_take _ (by omega), nv_take_lm, Int.toNat_natCast, Nat.pow_succ]
          exact left_alg hv rfl
    · right
      have : i = a.length := by omega
      subst this
      refine ⟨xs, ?_, hl, hn, ?_⟩
      · unfold nat_left_R0
        simp
      · rw [List.take_length] at hv
        by_cases q : n = a.length
        · rw [nv_take_all (by omega)] at hv
          rcases Nat.eq_zero_or_pos h with z | z
          · subst z; omega
          · have := Nat.mul_le_mul_right (4294967296 ^ a.length) z
            rw [q] at hfit; omega
        · have hne : n = a.length + 1 := by omega
          have := nv_take_lm xs a.length
          rw [nv_take_all (by omega), hli (by omega), Nat.mul_comm] at this
          omega
  · show lm (List.replicate n 0) 0 = 0
    unfold lm nth
    cases n <;> simp [List.replicate_succ]
theorem nat_left_run (a : List Int) (ha : limbs a) (la : a.length ≤ 1000000000) (s n : Nat) (hs : s < 32) (hn1 : a.length ≤ n) (hn2 : n ≤ a.length + 1) (hfit : nv a * 2 ^ s < 4294967296 ^ n) :
    ∃ r, (nat_left a (s : Int) (n : Int)).run = some r ∧ limbs r ∧ r.length = n ∧ nv r = nv a * 2 ^ s := by
  obtain ⟨r, h1, h2, h3, h4⟩ := left_loop a ha la s n hs hn1 hn2 hfit
  refine ⟨r, ?_, h2, h3, h4⟩
  unfold nat_left
  simp only [Int.toNat_natCast, List.length_replicate]
  rw [T.run_mk _ (by omega) (by omega) (by omega) (by omega), T.run_cur _ rfl rfl rfl, T.run_true, T.run_bind_of h1]
  simp
theorem nat_left_S_run (a : List Int) (ha : limbs a) (la : a.length ≤ 1000000000) (s n : Nat) (hs : s < 32) (hn1 : a.length ≤ n) (hn2 : n ≤ a.length + 1) (hfit : nv a * 2 ^ s < 4294967296 ^ n) :
    ∃ r, (nat_left_S a (s : Int) (n : Int)).run = some r ∧ limbs r ∧ r.length = n ∧ nv r = nv a * 2 ^ s := by
  obtain ⟨r, h1, h2, h3, h4⟩ := left_loop a ha la s n hs hn1 hn2 hfit
  refine ⟨r, ?_, h2, h3, h4⟩
  have h1' : (nat_left_S_L0 (s : Int) (n : Int) a (a.length : Int) (0, List.replicate n 0)).run = some r := h1
  unfold nat_left_S
  simp only [Int.toNat_natCast, List.length_replicate]
  rw [T.run_mk _ (by omega) (by omega) (by omega) (by omega), T.run_cur _ rfl rfl rfl, T.run_true, T.run_bind_of h1']
  simp
end Go.AM.Lf
