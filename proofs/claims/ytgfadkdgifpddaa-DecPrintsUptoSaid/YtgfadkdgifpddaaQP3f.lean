/-
  Plain laws of the lifted program: P3f.
-/
import Derived.Test.YtgfadkdgifpddaaQP3e
set_option linter.unusedVariables false
namespace Go.AM.Lf
open PL
/-! ### By one limb -/
theorem lm_drop {a : List Int} {i : Nat} (h : i < a.length) : nv (a.drop i) = lm a i + 4294967296 * nv (a.drop (i + 1)) := nv_drop_nth h
theorem set_drop {a : List Int} {i : Nat} (x : Int) (h : i < a.length) : nv ((a.set i x).drop i) = x.toNat + 4294967296 * nv (a.drop (i + 1)) := by
  rw [lm_drop (by simpa using h), set_drop_succ, lm_set h, if_pos rfl]
theorem div32_run {hi lo y : Nat} (h0 : hi < y) (h1 : lo < 4294967296) (h2 : y < 4294967296) :
    (math_bits_Div32 (hi : Int) (lo : Int) (y : Int)).run = some ((((hi * 4294967296 + lo) / y : Nat) : Int), (((hi * 4294967296 + lo) % y : Nat) : Int)) := by
  have e1 := hilo2 (x := (hi : Int)) (y := (lo : Int)) (by omega) (by omega) (by omega) (by omega)
  have ey : wu64 (y : Int) = y := wu64_in (by omega) (by omega)
  have eh : wu64 (hi : Int) = hi := wu64_in (by omega) (by omega)
  have el : wu64 (lo : Int) = lo := wu64_in (by omega) (by omega)
  have hq : (hi * 4294967296 + lo) / y < 4294967296 := by
    rw [Nat.div_lt_iff_lt_mul (by omega)]
    have := Nat.mul_le_mul_left 4294967296 (show hi + 1 ≤ y from h0)
    omega
  have hr : (hi * 4294967296 + lo) % y < y := Nat.mod_lt _ (by omega)
  have e2 : (hi : Int) * 4294967296 + (lo : Int) = ((hi * 4294967296 + lo : Nat) : Int) := by omega
  have e3 : Int.tdiv ((hi * 4294967296 + lo : Nat) : Int) (y : Int) = (((hi * 4294967296 + lo) / y : Nat) : Int) := by rw [tdiv_pos (by omega)]; rfl
  have e4 : Int.tmod ((hi * 4294967296 + lo : Nat) : Int) (y : Int) = (((hi * 4294967296 + lo) % y : Nat) : Int) := by rw [tmod_pos (by omega)]; rfl
  unfold math_bits_Div32
  rw [T.run_ite_f (by simp; omega)]
  simp only [ey, eh, el, e1, e2, e3, e4]
  rw [T.run_leI _ (by omega), T.run_neI _ (by omega), T.run_neI _ (by omega), T.run_ret, wu64n (by omega), wu32n hq, wu32n (by omega)]
theorem small_step {A Q r y l q : Nat} (h : A = Q * y + r) (hq : q = (r * 4294967296 + l) / y) : l + 4294967296 * A = (q + 4294967296 * Q) * y + (r * 4294967296 + l) % y := by
  have := Nat.div_add_mod (r * 4294967296 + l) y
  rw [← hq] at this
  generalize (r * 4294967296 + l) % y = m at *
  rw [h]
  have e : (q + 4294967296 * Q) * y + m = (y * q + m) + 4294967296 * (Q * y) := by grind
  rw [e, this]; omega
theorem nat_small_run (a : List Int) (ha : limbs a) (la : a.length ≤ 1000000000) (y : Nat) (h0 : 0 < y) (h1 : y < 4294967296) : (nat_small a (y : Int)).run = some (ofN (nv a / y), ((nv a % y : Nat) : Int)) := by
  have loop : ∃ r : Int × List Int, (nat_small_L0 a (y : Int) (0, (a.length : Int) - 1, List.replicate a.length 0)).run = some r ∧ ∃ m : Nat, r.1 = (m : Int) ∧ m < y ∧ limbs r.2 ∧ r.2.length = a.length ∧ nv a = nv r.2 * y + m := by
    refine T.loop_post (fun s : Int × Int × List Int => ∃ (m i : Nat), s.1 = (m : Int) ∧ s.2.1 = (i : Int) - 1 ∧ m < y ∧ i ≤ a.length ∧ limbs s.2.2 ∧ s.2.2.length = a.length ∧ nv (a.drop i) = nv (s.2.2.drop i) * y + m)
      (fun s => (s.2.1 + 1).toNat) _ ?_ ⟨0, a.length, rfl, rfl, h0, Nat.le_refl _, limbs_replicate _, by simp, by simp⟩
    rintro ⟨_, _, xs⟩ ⟨m, i, rfl, rfl, hm, hi, hl, hn, hv⟩
    simp only at hl hn hv ⊢
    cases i with
    | zero =>
      right
      refine ⟨((m : Int), xs), ?_, m, rfl, hm, hl, hn, by simpa using hv⟩
      unfold nat_small_R0
      simp
    | succ i =>
      left
      have hx := lm_lt ha i
      have e1 : ((i + 1 : Nat) : Int) - 1 = (i : Int) := by omega
      have hd := div32_run hm hx h1
      have hq : (m * 4294967296 + lm a i) / y < 4294967296 := by
        rw [Nat.div_lt_iff_lt_mul (by omega)]
        have := Nat.mul_le_mul_left 4294967296 (show m + 1 ≤ y from hm)
        omega
      have ei : w64 ((i : Int) - 1) = (i : Int) - 1 := w64_in (by omega) (by omega)
      refine ⟨((((m * 4294967296 + lm a i) % y : Nat) : Int), (i : Int) - 1, xs.set i (((m * 4294967296 + lm a i) / y : Nat) : Int)), ?_, ⟨_, i, rfl, rfl, Nat.mod_lt _ h0, by omega, limbs_setN hl _ hq, by simpa using hn, ?_⟩, by simp⟩
      · unfold nat_small_R0
        simp only [e1, dflt_u32, nth_lm ha, T.run_iteS, ei]
        rw [if_pos (by simp), T.run_idx _ (by omega) (by omega), T.run_bind_of hd]
        simp (disch := omega) [hn]
      · simp only
        rw [lm_drop (by omega), set_drop _ (by omega), Int.toNat_natCast]
        exact small_step hv rfl
  obtain ⟨⟨_, xs⟩, hr, m, rfl, hm, hl, hn, hv⟩ := loop
  simp only at hl hn hv
  unfold nat_small
  rw [w64_in (by omega) (by omega)]
  simp only [Int.toNat_natCast, List.length_replicate]
  rw [T.run_mk _ (by omega) (by omega) (by omega) (by omega), T.run_cur _ rfl rfl rfl, T.run_true, T.run_bind_of hr]
  simp only [Nat.zero_add, List.drop_zero, List.take_length]
  have e1 : nv a / y = nv xs := by rw [hv, Nat.mul_comm, Nat.mul_add_div h0, Nat.div_eq_of_lt hm, Nat.add_zero]
  have e2 : nv a % y = m := by rw [hv, Nat.mul_comm, Nat.mul_add_mod, Nat.mod_eq_of_lt hm]
  rw [T.run_true, T.run_bind_of (trim_run xs hl (by omega)), T.run_ret, e1, e2]
theorem ref1_small_run (a : List Int) (ha : limbs a) (la : a.length ≤ 1000000000) (y : Nat) (h0 : 0 < y) (h1 : y < 4294967296) : (ref1_small a (y : Int)).run = some (ofN (nv a / y), ((nv a % y : Nat) : Int)) := by
  have loop : ∃ r : Int × List Int, (ref1_small_L0 a (y : Int) (0, (a.length : Int) - 1, List.replicate a.length 0)).run = some r ∧ ∃ m : Nat, r.1 = (m : Int) ∧ m < y ∧ limbs r.2 ∧ r.2.length = a.length ∧ nv a = nv r.2 * y + m := by
    refine T.loop_post (fun s : Int × Int × List Int => ∃ (m i : Nat), s.1 = (m : Int) ∧ s.2.1 = (i : Int) - 1 ∧ m < y ∧ i ≤ a.length ∧ limbs s.2.2 ∧ s.2.2.length = a.length ∧ nv (a.drop i) = nv (s.2.2.drop i) * y + m)
      (fun s => (s.2.1 + 1).toNat) _ ?_ ⟨0, a.length, rfl, rfl, h0, Nat.le_refl _, limbs_replicate _, by simp, by simp⟩
    rintro ⟨_, _, xs⟩ ⟨m, i, rfl, rfl, hm, hi, hl, hn, hv⟩
    simp only at hl hn hv ⊢
    cases i with
    | zero =>
      right
      refine ⟨((m : Int), xs), ?_, m, rfl, hm, hl, hn, by simpa using hv⟩
      unfold ref1_small_R0
      simp
    | succ i =>
      left
      have hx := lm_lt ha i
      have e1 : ((i + 1 : Nat) : Int) - 1 = (i : Int) := by omega
      have hq : (m * 4294967296 + lm a i) / y < 4294967296 := by
        rw [Nat.div_lt_iff_lt_mul (by omega)]
        have := Nat.mul_le_mul_left 4294967296 (show m + 1 ≤ y from hm)
        omega
      have ei : w64 ((i : Int) - 1) = (i : Int) - 1 := w64_in (by omega) (by omega)
      have el : wu64 (lm a i : Int) = lm a i := wu64_in (by omega) (by omega)
      have e5 := hilo2 (x := (m : Int)) (y := (lm a i : Int)) (by omega) (by omega) (by omega) (by omega)
      have e2 : (m : Int) * 4294967296 + (lm a i : Int) = ((m * 4294967296 + lm a i : Nat) : Int) := by omega
      have e3 : Int.tdiv ((m * 4294967296 + lm a i : Nat) : Int) (y : Int) = (((m * 4294967296 + lm a i) / y : Nat) : Int) := by rw [tdiv_pos (by omega)]; rfl
      have e4 : Int.tmod ((m * 4294967296 + lm a i : Nat) : Int) (y : Int) = (((m * 4294967296 + lm a i) % y : Nat) : Int) := by rw [tmod_pos (by omega)]; rfl
      have e6 : wu32 (wu64 (((m * 4294967296 + lm a i) / y : Nat) : Int)) = (((m * 4294967296 + lm a i) / y : Nat) : Int) := by rw [wu64n (by omega), wu32n hq]
      refine ⟨((((m * 4294967296 + lm a i) % y : Nat) : Int), (i : Int) - 1, xs.set i (((m * 4294967296 + lm a i) / y : Nat) : Int)), ?_, ⟨_, i, rfl, rfl, Nat.mod_lt _ h0, by omega, limbs_setN hl _ hq, by simpa using hn, ?_⟩, by simp⟩
      · unfold ref1_small_R0
        simp only [e1, dflt_u32, nth_lm ha, T.run_iteS, ei, el, e5, e2, e3, e4, e6]
        have hy : y ≠ 0 := by omega
        rw [if_pos (by simp)]
        simp (disch := omega) [hn, hy]
      · simp only
        rw [lm_drop (by omega), set_drop _ (by omega), Int.toNat_natCast]
        exact small_step hv rfl
  obtain ⟨⟨_, xs⟩, hr, m, rfl, hm, hl, hn, hv⟩ := loop
  simp only at hl hn hv
  unfold ref1_small
  rw [w64_in (by omega) (by omega)]
  simp only [Int.toNat_natCast, List.length_replicate]
  rw [T.run_mk _ (by omega) (by omega) (by omega) (by omega), T.run_cur _ rfl rfl rfl, T.run_true, T.run_bind_of hr]
  simp only [Nat.zero_add, List.drop_zero, List.take_length]
  have e1 : nv a / y = nv xs := by rw [hv, Nat.mul_comm, Nat.mul_add_div h0, Nat.div_eq_of_lt hm, Nat.add_zero]
  have e2 : nv a % y = m := by rw [hv, Nat.mul_comm, Nat.mul_add_mod, Nat.mod_eq_of_lt hm]
  rw [T.run_true, T.run_bind_of (rTrim_run xs hl (by omega)), T.run_ret, e1, e2]
end Go.AM.Lf
