/-
  Plain laws of the lifted program: P3r.
-/
import Derived.Test.YtgfadkdgifpddaaQP3q
set_option linter.unusedVariables false
namespace Go.AM.Lf
open PL
theorem bit_div {D B t : Nat} (hB : 0 < B) (ht : t ≤ 1) :
    (D * 2 + t) / B = D / B * 2 + (if B ≤ D % B * 2 + t then 1 else 0) ∧ (D * 2 + t) % B = (D % B * 2 + t) - (if B ≤ D % B * 2 + t then B else 0) := by
  have h1 := Nat.div_add_mod D B
  have h2 := Nat.mod_lt D hB
  generalize D / B = q at *
  generalize D % B = r at *
  subst h1
  have e : (B * q + r) * 2 + t = B * (q * 2) + (r * 2 + t) := by grind
  rw [e, Nat.mul_add_div hB, Nat.mul_add_mod]
  split
  · rename_i c
    have e2 : r * 2 + t = B + (r * 2 + t - B) := by omega
    rw [e2, Nat.add_div_left _ hB, Nat.add_mod_left, Nat.div_eq_of_lt (by omega), Nat.mod_eq_of_lt (by omega)]
    omega
  · rename_i c
    rw [Nat.div_eq_of_lt (by omega), Nat.mod_eq_of_lt (by omega)]; omega
theorem half_step (A i : Nat) : A / 2 ^ i = A / 2 ^ (i + 1) * 2 + A / 2 ^ i % 2 := by
  rw [Nat.pow_succ, ← Nat.div_div_eq_div_mul]
  have := Nat.div_add_mod (A / 2 ^ i) 2
  omega
theorem or_bit {x s : Nat} (hs : s < 32) (hx : x < 4294967296) (hd : 2 ^ (s + 1) ∣ x) : orI .u32 (x : Int) (shlI .u32 1 (s : Int)) = ((x + 2 ^ s : Nat) : Int) ∧ x + 2 ^ s < 4294967296 := by
  have hp : 2 ^ s < 4294967296 := Nat.pow_lt_pow_right (by omega) (show s < 32 by omega)
  have e1 : shlI .u32 1 (s : Int) = ((2 ^ s : Nat) : Int) := by
    have e : min (s : Int).toNat 32 = s := by simp; omega
    show wu32 ((1 : Int) * 2 ^ (min (s : Int).toNat 32)) = _
    rw [e, Int.one_mul]
    have e2 : (2 : Int) ^ s = ((2 ^ s : Nat) : Int) := by simp
    rw [e2, wu32n hp]
  obtain ⟨m, rfl⟩ := hd
  rw [e1, orI_u32 hx hp]
  have e3 : 2 ^ (s + 1) * m ||| 2 ^ s = 2 ^ (s + 1) * m + 2 ^ s := by
    rw [Nat.mul_comm]
    exact or_add m (2 ^ s) (s + 1) (Nat.pow_lt_pow_right (by omega) (by omega))
  rw [e3]
  refine ⟨rfl, ?_⟩
  have e4 : (4294967296 : Nat) = 2 ^ (s + 1) * 2 ^ (31 - s) := by rw [← Nat.pow_add, show s + 1 + (31 - s) = 32 by omega]
  rw [e4] at hx ⊢
  have h5 : m < 2 ^ (31 - s) := Nat.lt_of_mul_lt_mul_left hx
  have h6 := Nat.mul_le_mul_left (2 ^ (s + 1)) (show m + 1 ≤ 2 ^ (31 - s) from h5)
  rw [Nat.mul_add, Nat.mul_one] at h6
  have h7 : 2 ^ s < 2 ^ (s + 1) := Nat.pow_lt_pow_right (by omega) (by omega)
  exact Nat.lt_of_lt_of_le (Nat.add_lt_add_left h7 _) h6
theorem lm_dvd {xs : List Int} (h : limbs xs) (i M : Nat) (hv : nv xs = M * 2 ^ (i + 1)) : 2 ^ (i % 32 + 1) ∣ lm xs (i / 32) := by
  rw [lm_eq h, hv]
  have e1 : 2 ^ (i + 1) = 4294967296 ^ (i / 32) * 2 ^ (i % 32 + 1) := by
    rw [Nat.pow_succ, ← pow32 i, Nat.pow_succ, Nat.mul_assoc]
  rw [e1]
  have e2 : M * (4294967296 ^ (i / 32) * 2 ^ (i % 32 + 1)) / 4294967296 ^ (i / 32) = M * 2 ^ (i % 32 + 1) := by
    have : M * (4294967296 ^ (i / 32) * 2 ^ (i % 32 + 1)) = 4294967296 ^ (i / 32) * (M * 2 ^ (i % 32 + 1)) := by grind
    rw [this, Nat.mul_div_cancel_left _ (pow_pos' _)]
  rw [e2]
  have e3 : (4294967296 : Nat) = 2 ^ (31 - i % 32) * 2 ^ (i % 32 + 1) := by rw [← Nat.pow_add, show 31 - i % 32 + (i % 32 + 1) = 32 by omega]
  rw [e3, Nat.mul_mod_mul_right]
  exact ⟨_, Nat.mul_comm _ _⟩
theorem set_alg {X P l t M z : Nat} (h : X + P * l = M * (z * 2) + P * (l + t)) (h2 : P * t = z) : X = (M * 2 + 1) * z := by
  rw [Nat.mul_add, h2] at h
  have e : (M * 2 + 1) * z = M * (z * 2) + z := by grind
  rw [e]; omega
theorem set_bit {xs : List Int} (i M : Nat) (hi : i / 32 < xs.length) (hv : nv xs = M * 2 ^ (i + 1)) : nv (xs.set (i / 32) ((lm xs (i / 32) + 2 ^ (i % 32) : Nat) : Int)) = (M * 2 + 1) * 2 ^ i := by
  have h := nv_set (a := xs) (i := i / 32) ((lm xs (i / 32) + 2 ^ (i % 32) : Nat) : Int) hi
  rw [Int.toNat_natCast, hv] at h
  have h2 := pow32 i
  rw [Nat.pow_succ] at h
  exact set_alg h h2
theorem len_step {D B t k : Nat} (hB : 0 < B) (hk : B < 4294967296 ^ k) : (ofN (D % B)).length ≤ k ∧ (ofN (D % B * 2)).length ≤ k + 1 := by
  have h1 : D % B < 4294967296 ^ k := Nat.lt_trans (Nat.mod_lt _ hB) hk
  refine ⟨ofN_len_le.2 h1, ofN_len_le.2 ?_⟩
  rw [Nat.pow_succ]
  have h2 : D % B * 2 < 4294967296 ^ k * 2 := Nat.mul_lt_mul_of_pos_right h1 (by omega)
  exact Nat.lt_of_lt_of_le h2 (Nat.mul_le_mul_left _ (by omega))
theorem one_limb : limbs [(1 : Int)] := by
  intro x hx; simp at hx; omega
theorem bits_round (a b : List Int) (ha : limbs a) (hb : limbs b) (la : a.length ≤ 100000000) (lb : b.length ≤ 100000000) (hB : 0 < nv b) (i : Nat) (hi : i < 32 * a.length) (xs : List Int) (hl : limbs xs) (hn : xs.length = a.length)
    (hv : nv xs = nv a / 2 ^ (i + 1) / nv b * 2 ^ (i + 1)) :
    ∃ ys : List Int, (ref1_DivMod_R0 a b (ofN (nv a / 2 ^ (i + 1) % nv b), (i : Int), xs)).run = some (.inl (ofN (nv a / 2 ^ i % nv b), (i : Int) - 1, ys)) ∧ limbs ys ∧ ys.length = a.length ∧ nv ys = nv a / 2 ^ i / nv b * 2 ^ i := by
  have hbit := bit_of ha i
  have hhalf := half_step (nv a) i
  have hx := lm_lt ha (i / 32)
  have hxl := lm_lt hl (i / 32)
  obtain ⟨q1, q2⟩ := len_step (D := nv a / 2 ^ (i + 1)) (t := 0) hB (nv_lt hb)
  obtain ⟨k1, k2⟩ := bit_div (D := nv a / 2 ^ (i + 1)) hB (show nv a / 2 ^ i % 2 ≤ 1 by omega)
  rw [← hhalf] at k1 k2
  obtain ⟨o1, o2⟩ := or_bit (s := i % 32) (by omega) hxl (lm_dvd hl i _ hv)
  have hsb := set_bit (xs := xs) i _ (by omega) hv
  have hsh := ref1_Shift1_run (ofN (nv a / 2 ^ (i + 1) % nv b)) (limbs_ofN _) (by omega)
  rw [nv_ofN] at hsh
  have hv0 : nv a / 2 ^ (i + 1) / nv b * 2 ^ (i + 1) = nv a / 2 ^ (i + 1) / nv b * 2 * 2 ^ i := by rw [Nat.pow_succ, Nat.mul_comm (2 ^ i) 2, Nat.mul_assoc]
  rw [hv0] at hv
  clear hhalf hv0
  generalize nv a / 2 ^ (i + 1) = D at *
  generalize nv a / 2 ^ i = D0 at *
  have hadd := ref1_Add_run (ofN (D % nv b * 2)) [1] (limbs_ofN _) one_limb (by omega) (by simp)
  rw [nv_ofN, show nv [1] = 1 from rfl] at hadd
  have ht1 : D0 % 2 ≤ 1 := by omega
  generalize D0 % 2 = t at *
  have q3 : (ofN (D % nv b * 2 + t)).length ≤ b.length + 1 := by
    refine ofN_len_le.2 ?_
    rw [Nat.pow_succ]
    have h1 := Nat.mod_lt D hB
    have h2 := nv_lt hb
    have h3 : D % nv b * 2 + t < 4294967296 ^ b.length * 2 := by omega
    exact Nat.lt_of_lt_of_le h3 (Nat.mul_le_mul_left _ (by omega))
  have hcmp := ref1_Cmp_run (ofN (D % nv b * 2 + t)) b (limbs_ofN _) hb (by omega) (by omega)
  have hsub := ref1_Sub_run (ofN (D % nv b * 2 + t)) b (limbs_ofN _) hb (by omega) (by omega)
  rw [nv_ofN] at hcmp hsub
  have e1 : w64 (Int.tdiv (i : Int) 32) = ((i / 32 : Nat) : Int) := by rw [tdiv_pos (by omega), w64_in (by omega) (by omega)]; omega
  have e2 : wu64 (Int.tmod (i : Int) 32) = ((i % 32 : Nat) : Int) := by rw [tmod_pos (by omega), wu64_in (by omega) (by omega)]; omega
  have e3 : w64 ((i : Int) - 1) = (i : Int) - 1 := w64_in (by omega) (by omega)
  have e4 : andI .u32 (shrI .u32 (lm a (i / 32) : Int) ((i % 32 : Nat) : Int)) 1 = (t : Int) := by
    rw [shr_u32 (by omega)]
    have := andI_u32 (x := lm a (i / 32) / 2 ^ (i % 32)) (y := 1) (Nat.lt_of_le_of_lt (Nat.div_le_self _ _) hx) (by omega)
    rw [Nat.and_one_is_mod, hbit] at this
    exact this
  have hbl := limbs_setN (a := xs) hl (i / 32) o2
  by_cases c : nv b ≤ D % nv b * 2 + t
  · rw [if_pos c] at k1 k2
    rw [if_neg (by omega)] at hsub
    refine ⟨xs.set (i / 32) ((lm xs (i / 32) + 2 ^ (i % 32) : Nat) : Int), ?_, hbl, by simpa using hn, ?_⟩
    · unfold ref1_DivMod_R0
      simp only [e1, e2, e3, dflt_u32, nth_lm ha, e4, Int.toNat_natCast, Nat.zero_add, nthN_lm hl, o1]
      rw [T.run_ite_t (by simp), T.run_bind_of hsh]
      rw [T.run_bind_of (a := (ofN (D % nv b * 2 + t), xs)) ?_]
      rotate_left
      · rw [T.run_neI _ (by omega), T.run_idx _ (by omega) (by omega), T.run_neI _ (by omega), T.run_leI _ (by omega)]
        have : t = 0 ∨ t = 1 := by omega
        rcases this with rfl | rfl
        · rw [T.run_ite_f (by decide), T.run_cur _ rfl rfl rfl, T.run_true, T.run_ret]; rfl
        · rw [T.run_ite_t (by decide), T.run_bind_of hadd, T.run_cur _ rfl rfl rfl, T.run_true, T.run_ret]
      simp only
      rw [T.run_bind_of hcmp, T.run_ite_t (by unfold cmpI; rw [if_neg (by omega)]; split <;> simp), T.run_bind_of hsub]
      simp only
      rw [T.run_neI _ (by omega), T.run_neI _ (by omega), T.run_idx _ (by omega) (by omega), T.run_e _ rfl (by omega), T.run_neI _ (by omega), T.run_leI _ (by omega), T.run_idx _ (by omega) (by omega), T.run_e _ rfl (by omega),
        T.run_cur _ (by simp) rfl (by simp), T.run_eqN _ (by simp), T.run_ret, k2, nthN_lm hl, o1]
    · rw [hsb, k1]
  · rw [if_neg c] at k1 k2
    refine ⟨xs, ?_, hl, hn, ?_⟩
    · unfold ref1_DivMod_R0
      simp only [e1, e2, e3, dflt_u32, nth_lm ha, e4, Int.toNat_natCast, Nat.zero_add, nthN_lm hl, o1]
      rw [T.run_ite_t (by simp), T.run_bind_of hsh]
      rw [T.run_bind_of (a := (ofN (D % nv b * 2 + t), xs)) ?_]
      rotate_left
      · rw [T.run_neI _ (by omega), T.run_idx _ (by omega) (by omega), T.run_neI _ (by omega), T.run_leI _ (by omega)]
        have : t = 0 ∨ t = 1 := by omega
        rcases this with rfl | rfl
        · rw [T.run_ite_f (by decide), T.run_cur _ rfl rfl rfl, T.run_true, T.run_ret]; rfl
        · rw [T.run_ite_t (by decide), T.run_bind_of hadd, T.run_cur _ rfl rfl rfl, T.run_true, T.run_ret]
      simp only
      rw [T.run_bind_of hcmp, T.run_ite_f (by unfold cmpI; rw [if_pos (by omega)]; rfl), T.run_cur _ rfl rfl rfl, T.run_true, T.run_ret, k2, Nat.sub_zero]
    · rw [hv, k1, Nat.add_zero]
theorem bits_loop (a b : List Int) (ha : limbs a) (hb : limbs b) (la : a.length ≤ 100000000) (lb : b.length ≤ 100000000) (hB : 0 < nv b) :
    ∃ xs : List Int, (ref1_DivMod_L0 a b ([], ((32 * a.length : Nat) : Int) - 1, List.replicate a.length 0)).run = some (ofN (nv a % nv b), xs) ∧ limbs xs ∧ xs.length = a.length ∧ nv xs = nv a / nv b := by
  have h0 : nv a / 2 ^ (32 * a.length) = 0 := by
    refine Nat.div_eq_of_lt ?_
    have h1 := nv_lt ha
    have e : (4294967296 : Nat) = 2 ^ 32 := by decide
    rw [e, ← Nat.pow_mul] at h1; exact h1
  obtain ⟨⟨r, xs⟩, g1, g2, g3, g4, g5⟩ : ∃ r : List Int × List Int, (ref1_DivMod_L0 a b ([], ((32 * a.length : Nat) : Int) - 1, List.replicate a.length 0)).run = some r ∧ r.1 = ofN (nv a % nv b) ∧ limbs r.2 ∧ r.2.length = a.length ∧ nv r.2 = nv a / nv b := by
    refine T.loop_post (fun s : List Int × Int × List Int => ∃ k : Nat, s.2.1 = (k : Int) - 1 ∧ k ≤ 32 * a.length ∧ s.1 = ofN (nv a / 2 ^ k % nv b) ∧ limbs s.2.2 ∧ s.2.2.length = a.length ∧ nv s.2.2 = nv a / 2 ^ k / nv b * 2 ^ k)
      (fun s => (s.2.1 + 1).toNat) _ ?_ ⟨32 * a.length, rfl, Nat.le_refl _, by rw [h0, Nat.zero_mod, ofN_zero], limbs_replicate _, by simp, by rw [h0]; simp⟩
    rintro ⟨_, _, xs⟩ ⟨k, rfl, hk, rfl, hl, hn, hv⟩
    simp only at hl hn hv ⊢
    cases k with
    | zero =>
      right
      refine ⟨(_, xs), ?_, rfl, hl, hn, by simpa using hv⟩
      unfold ref1_DivMod_R0
      simp
    | succ i =>
      left
      obtain ⟨ys, f1, f2, f3, f4⟩ := bits_round a b ha hb la lb hB i (by omega) xs hl hn hv
      have e1 : ((i + 1 : Nat) : Int) - 1 = (i : Int) := by omega
      exact ⟨(ofN (nv a / 2 ^ i % nv b), (i : Int) - 1, ys), by rw [e1]; exact f1, ⟨i, rfl, by omega, rfl, f2, f3, f4⟩, by simp⟩
  simp only at g2 g3 g4 g5
  subst g2
  exact ⟨xs, g1, g3, g4, g5⟩
theorem ref1_DivMod_run (a b : List Int) (ha : limbs a) (hb : limbs b) (la : a.length ≤ 100000000) (lb : b.length ≤ 100000000) :
    (ref1_DivMod a b).run = some (if nv b = 0 then ([], [], false) else (ofN (nv a / nv b), ofN (nv a % nv b), true)) := by
  unfold ref1_DivMod
  rw [T.run_bind_of (rTrim_run b hb (by omega))]
  by_cases hB : nv b = 0
  · rw [if_pos hB, hB, ofN_zero]; simp
  · have hBp : 0 < nv b := Nat.pos_of_ne_zero hB
    have hne : (ofN (nv b)).length ≠ 0 := fun h => hB (ofN_eq_nil.1 (List.eq_nil_of_length_eq_zero h))
    obtain ⟨xs, g1, g2, g3, g4⟩ := bits_loop a b ha hb la lb hBp
    have e5 : w64 (w64 (32 * (a.length : Int)) - 1) = ((32 * a.length : Nat) : Int) - 1 := by rw [w64_in (x := 32 * (a.length : Int)) (by omega) (by omega), w64_in (by omega) (by omega)]; omega
    have hm2 : (ofN (nv a % nv b)).length ≤ 100000000 := Nat.le_trans (ofN_len_le.2 (Nat.lt_trans (Nat.mod_lt _ hBp) (nv_lt hb))) lb
    have t1 := rTrim_run xs g2 (by omega)
    have t2 := rTrim_run (ofN (nv a % nv b)) (limbs_ofN _) (by omega)
    rw [g4] at t1
    rw [nv_ofN] at t2
    rw [if_neg hB, T.run_ite_f (by simpa using hne), T.run_bind_of (ref1_To_run a ha (by omega)), T.run_bind_of (ref1_To_run b hb (by omega))]
    by_cases c2 : nv b < 18446744073709551616
    · by_cases c1 : nv a < 18446744073709551616
      · -- both are words
        have hq : nv a / nv b < 18446744073709551616 := Nat.lt_of_le_of_lt (Nat.div_le_self _ _) c1
        have hm : nv a % nv b < 18446744073709551616 := Nat.lt_of_le_of_lt (Nat.mod_le _ _) c1
        have e3 : Int.tdiv ((nv a : Nat) : Int) ((nv b : Nat) : Int) = ((nv a / nv b : Nat) : Int) := by rw [tdiv_pos (by omega)]; exact (Int.natCast_ediv _ _).symm
        have e4 : Int.tmod ((nv a : Nat) : Int) ((nv b : Nat) : Int) = ((nv a % nv b : Nat) : Int) := by rw [tmod_pos (by omega)]; exact (Int.natCast_emod _ _).symm
        simp only [if_pos c1, if_pos c2, Bool.and_self, T.run_ite_true, e3, e4]
        rw [T.run_neI _ (by omega), wu64n hq, T.run_bind_of (ref1_Of_run _ hq), T.run_neI _ (by omega), T.run_bind_of (ref1_Of_run _ hm), T.run_ret]
      · rw [if_neg c1, if_pos c2]
        rw [T.run_ite_f (by rfl)]
        by_cases c3 : nv b < 4294967296
        · have hm := Nat.mod_lt (nv a) hBp
          rw [T.run_ite_t (show (true && decide ((nv b : Int) < 4294967296)) = true by rw [Bool.true_and]; exact decide_eq_true (by omega)), T.run_bind_of (ref1_small_run a ha (by omega) (nv b) hBp c3)]
          simp only
          have hm3 : nv a % nv b < 18446744073709551616 := Nat.lt_trans hm c2
          rw [T.run_bind_of (ref1_Of_run _ hm3), T.run_ret]
        · rw [T.run_ite_f (show (true && decide ((nv b : Int) < 4294967296)) = false by rw [Bool.true_and]; exact decide_eq_false (by omega)), e5]
          simp only [Int.toNat_natCast, List.length_replicate]
          rw [T.run_mk _ (by omega) (by omega) (by omega) (by omega), T.run_cur _ rfl rfl rfl, T.run_true, T.run_bind_of g1]
          simp only [Nat.zero_add, List.drop_zero, List.take_length]
          rw [T.run_true, T.run_bind_of t1, T.run_bind_of t2, T.run_ret]
    · rw [if_neg c2]
      simp only [Bool.and_false, Bool.false_and, T.run_ite_false]
      rw [e5]
      simp only [Int.toNat_natCast, List.length_replicate]
      rw [T.run_mk _ (by omega) (by omega) (by omega) (by omega), T.run_cur _ rfl rfl rfl, T.run_true, T.run_bind_of g1]
      simp only [Nat.zero_add, List.drop_zero, List.take_length]
      rw [T.run_true, T.run_bind_of t1, T.run_bind_of t2, T.run_ret]
end Go.AM.Lf
