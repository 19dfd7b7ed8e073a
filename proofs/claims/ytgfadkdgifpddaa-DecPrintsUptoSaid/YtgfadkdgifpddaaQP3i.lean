/-
  Plain laws of the lifted program: P3i.
-/
import Derived.Test.YtgfadkdgifpddaaQP3h
set_option linter.unusedVariables false
namespace Go.AM.Lf
open PL
theorem len_pow {A k : Nat} (h : (ofN A).length ≤ k) : A < 4294967296 ^ k := ofN_len_le.1 h
theorem pow32 (k : Nat) : (4294967296 : Nat) ^ (k / 32) * 2 ^ (k % 32) = 2 ^ k := by
  have : (4294967296 : Nat) = 2 ^ 32 := by decide
  rw [this, ← Nat.pow_mul, ← Nat.pow_add]; congr 1; omega
theorem Shift_neg_run (a : List Int) (ha : limbs a) (la : a.length ≤ 1000000000) (k : Nat) (hk : k ≤ 4096) (h0 : 0 < k) : (nat_Shift a (-(k : Int))).run = some (ofN (nv a / 2 ^ k)) := by
  have qa := ofN_nv_len ha
  unfold nat_Shift
  rw [T.run_bind_of (trim_run a ha (by omega))]
  generalize nv a = A at *
  have e1 : minI (maxI (-(k : Int)) (-4096)) 4096 = -(k : Int) := by unfold minI maxI; repeat' split <;> omega
  have e2 : w64 (0 - -(k : Int)) = (k : Int) := by rw [w64_in (by omega) (by omega)]; omega
  have e3 : w64 (Int.tdiv (k : Int) 32) = ((k / 32 : Nat) : Int) := by rw [tdiv_pos (by omega), w64_in (by omega) (by omega)]; omega
  have e4 : wu64 (Int.tmod (k : Int) 32) = ((k % 32 : Nat) : Int) := by rw [tmod_pos (by omega), wu64_in (by omega) (by omega)]; omega
  simp only [e1, e2, e3, e4]
  rw [T.run_ite_t (by simp; omega), T.run_neI _ (by omega)]
  have hx := limbs_ofN A
  by_cases c : (ofN A).length ≤ k / 32
  · rw [T.run_ite_t (by simp; omega), T.run_ret]
    have h1 := len_pow c
    have h2 := pow32 k
    have h3 : 4294967296 ^ (k / 32) ≤ 2 ^ k := by rw [← h2]; exact Nat.le_mul_of_pos_right _ (Nat.pow_pos (by omega))
    rw [Nat.div_eq_of_lt (by omega), ofN_zero]
  · rw [T.run_ite_f (by simp; omega), T.run_neI _ (by omega)]
    have e5 : w64 (((ofN A).length : Int) - ((k / 32 : Nat) : Int)) = (((ofN A).length - k / 32 : Nat) : Int) := by rw [w64_in (by omega) (by omega)]; omega
    have e6 : cutL (e := .int .u32) ((k / 32 : Nat) : Int) ((ofN A).length : Int) (ofN A) = (ofN A).drop (k / 32) := by unfold cutL; simp only [Int.toNat_natCast, List.take_length]
    obtain ⟨r, g1, g2, g3, g4⟩ := shr_loop ((ofN A).drop (k / 32)) (limbs_drop hx _) (by simp; omega) (k % 32) (Nat.mod_lt _ (by omega))
    have hlen : ((ofN A).drop (k / 32)).length = (ofN A).length - k / 32 := List.length_drop
    rw [hlen] at g1
    simp only [e5, e6, Int.toNat_natCast, List.length_replicate, hlen]
    rw [T.run_mk _ (by omega) (by omega) (by omega) (by omega), T.run_sl _ (by omega) (by omega) (by omega), T.run_cur _ rfl rfl rfl, T.run_true, T.run_bind_of g1]
    simp only [Nat.zero_add, List.drop_zero, List.take_length]
    rw [T.run_true, T.run_bind_of (trim_run r g2 (by omega)), T.run_ret, g4]
    have h1 := nv_split (ofN A) (k / 32) (by omega)
    rw [nv_ofN] at h1
    have h2 := nv_take_lt hx (k / 32)
    have h3 : A / 4294967296 ^ (k / 32) = nv ((ofN A).drop (k / 32)) := by
      refine (congrArg (· / 4294967296 ^ (k / 32)) h1).trans ?_
      rw [Nat.add_mul_div_left _ _ (pow_pos' _), Nat.div_eq_of_lt h2, Nat.zero_add]
    rw [← h3, Nat.div_div_eq_div_mul, pow32]
theorem nv_zeros_app (k : Nat) (l : List Int) : nv (List.replicate k 0 ++ l) = 4294967296 ^ k * nv l := by rw [nv_append]; simp
theorem Shift_pos_run (a : List Int) (ha : limbs a) (la : a.length ≤ 1000000000) (k : Nat) (hk : k ≤ 4096) : (nat_Shift a (k : Int)).run = some (ofN (nv a * 2 ^ k)) := by
  have qa := ofN_nv_len ha
  unfold nat_Shift
  rw [T.run_bind_of (trim_run a ha (by omega))]
  generalize nv a = A at *
  have e1 : minI (maxI (k : Int) (-4096)) 4096 = (k : Int) := by unfold minI maxI; repeat' split <;> omega
  have e3 : w64 (Int.tdiv (k : Int) 32) = ((k / 32 : Nat) : Int) := by rw [tdiv_pos (by omega), w64_in (by omega) (by omega)]; omega
  have e4 : wu64 (Int.tmod (k : Int) 32) = ((k % 32 : Nat) : Int) := by rw [tmod_pos (by omega), wu64_in (by omega) (by omega)]; omega
  have hx := limbs_ofN A
  have e5 : w64 ((ofN A).length + 1 : Int) = (((ofN A).length + 1 : Nat) : Int) := i1 _ (by omega)
  have e6 : w64 (w64 (((k / 32 : Nat) : Int) + (ofN A).length) + 1) = ((k / 32 + (ofN A).length + 1 : Nat) : Int) := by rw [w64_in (x := ((k / 32 : Nat) : Int) + (ofN A).length) (by omega) (by omega), w64_in (by omega) (by omega)]; omega
  have hfit : nv (ofN A) * 2 ^ (k % 32) < 4294967296 ^ ((ofN A).length + 1) := by
    have h1 := nv_lt hx
    have h2 : 2 ^ (k % 32) ≤ 2 ^ 32 := Nat.pow_le_pow_right (by omega) (by omega)
    rw [Nat.pow_succ]
    exact Nat.mul_lt_mul_of_lt_of_le h1 h2 (by omega)
  obtain ⟨r, g1, g2, g3, g4⟩ := nat_left_run (ofN A) hx (by omega) (k % 32) ((ofN A).length + 1) (Nat.mod_lt _ (by omega)) (by omega) (by omega) hfit
  simp only [e1, e3, e4, e5, e6]
  rw [T.run_ite_f (by simp), T.run_neI _ (by omega), T.run_mk _ (by omega) (by omega) (by omega) (by omega), T.run_sl _ (by omega) (by simp; omega) (by simp), T.run_neI _ (by omega), T.run_bind_of g1]
  simp only [Int.toNat_natCast, Nat.zero_add, List.length_replicate, List.drop_zero]
  rw [T.run_cpy _ rfl (by omega), T.run_true]
  have ec : ((copyL (k / 32) (k / 32 + (ofN A).length + 1 - k / 32) (List.replicate (k / 32 + (ofN A).length + 1) (0 : Int)) r)) = List.replicate (k / 32) 0 ++ r := by
    unfold copyL
    rw [List.take_replicate, List.drop_replicate, List.take_of_length_le (by omega)]
    rw [show k / 32 + (ofN A).length + 1 - (k / 32 + min (k / 32 + (ofN A).length + 1 - k / 32) r.length) = 0 by omega]
    rw [show min (k / 32) (k / 32 + (ofN A).length + 1) = k / 32 by omega]
    simp
  rw [ec, List.take_of_length_le (by simp; omega)]
  rw [T.run_bind_of (trim_run _ (limbs_append.2 ⟨limbs_replicate _, g2⟩) (by simp; omega)), T.run_ret, nv_zeros_app, g4, nv_ofN]
  congr 2
  rw [← pow32 k]; grind
theorem ref1_Shift1_run (a : List Int) (ha : limbs a) (la : a.length ≤ 1000000000) : (ref1_Shift a 1).run = some (ofN (nv a * 2)) := by
  have qa := ofN_nv_len ha
  unfold ref1_Shift
  rw [T.run_bind_of (rTrim_run a ha (by omega))]
  generalize nv a = A at *
  have hx := limbs_ofN A
  have hxn := nv_ofN A
  generalize ofN A = x at *
  have e1 : minI (maxI (1 : Int) (-4096)) 4096 = 1 := by decide
  have e3 : w64 (Int.tdiv (1 : Int) 32) = 0 := by decide
  have e4 : wu64 (Int.tmod (1 : Int) 32) = 1 := by decide
  have e5 : w64 ((x.length : Int) + 1) = ((x.length + 1 : Nat) : Int) := i1 _ (by omega)
  simp only [e1, e3, e4]
  rw [T.run_ite_f (by decide), T.run_neI _ (by omega), T.run_mk _ (by omega) (by omega) (by omega) (by omega), T.run_neI _ (by omega)]
  simp only [Int.toNat_zero, List.replicate_zero, List.length_nil]
  have loop : ∃ r : List Int, (ref1_Shift_L1 x 1 (0, 0, [])).run = some r ∧ limbs r ∧ r.length = x.length + 1 ∧ nv r = A * 2 := by
    refine T.loop_post (fun s : Int × Int × List Int => ∃ (c i : Nat), s.1 = (c : Int) ∧ s.2.1 = (i : Int) ∧ c < 2 ^ 1 ∧ i ≤ x.length + 1 ∧ limbs s.2.2 ∧ s.2.2.length = i ∧ nv s.2.2 + c * 4294967296 ^ i = nv (x.take i) * 2 ^ 1)
      (fun s => x.length + 1 - s.2.1.toNat) _ ?_ ⟨0, 0, rfl, rfl, by omega, by omega, limbs_nil, rfl, by simp⟩
    rintro ⟨_, _, xs⟩ ⟨c, i, rfl, rfl, hc, hi, hl, hn, hv⟩
    simp only at hl hn hv ⊢
    by_cases hlt : i < x.length + 1
    · left
      have hxl := lm_lt hx i
      obtain ⟨s1, s2, s3⟩ := left_step hc hxl (show 1 < 32 by omega)
      have w1 : shlI .u64 (lm x i : Int) 1 = ((lm x i * 2 ^ 1 : Nat) : Int) := shlI64 (s := 1) hxl (by omega)
      have w2 : wu32 (orI .u64 ((lm x i * 2 ^ 1 : Nat) : Int) (c : Int)) = ((c + lm x i * 2 ^ 1 % 4294967296 : Nat) : Int) := by
        rw [orI_u64 (by omega) (by omega), or_add _ _ 1 hc, lo32]; omega
      refine ⟨(((lm x i * 2 ^ 1 / 4294967296 : Nat) : Int), ((i + 1 : Nat) : Int), xs ++ [((c + lm x i * 2 ^ 1 % 4294967296 : Nat) : Int)]), ?_, ⟨_, i + 1, rfl, rfl, s3, by omega, limbs_snoc hl (by omega) (by omega), by simp; omega, ?_⟩, by simp; omega⟩
      · unfold ref1_Shift_R1
        simp only [T.run_iteS, e5]
        rw [if_pos (by simp; omega), T.run_bind_of (ref1_at_run x hx i)]
        simp only [w1, w2, hi32, i1 i (by omega)]
        simp (disch := omega) [hn]
      · simp only
        rw [nv_snoc, hn, nv_take_lm, Nat.pow_succ, Int.toNat_natCast]
        exact left_alg hv rfl
    · right
      have hi2 : i = x.length + 1 := by omega
      subst hi2
      refine ⟨xs, ?_, hl, hn, ?_⟩
      · unfold ref1_Shift_R1
        simp [e5]
      · rw [nv_take_all (by omega), hxn] at hv
        have h1 := nv_lt hx
        rw [hxn] at h1
        rcases Nat.eq_zero_or_pos c with z | z
        · subst z; omega
        · have := Nat.mul_le_mul_right (4294967296 ^ (x.length + 1)) z
          rw [Nat.pow_succ] at this hv; omega
  obtain ⟨xs, hr, hl, hn, hv⟩ := loop
  rw [T.run_cur _ rfl rfl rfl, T.run_true, T.run_bind_of hr]
  simp only [List.drop_zero, Nat.zero_add, List.take_length]
  rw [T.run_true, T.run_bind_of (rTrim_run xs hl (by omega)), hv, T.run_ret]
end Go.AM.Lf
