/-
  Plain laws of the lifted program: P3p.
-/
import Derived.Test.YtgfadkdgifpddaaQP3o
set_option linter.unusedVariables false
namespace Go.AM.Lf
open PL
theorem long_fin {A B S Q R : Nat} (hS : 0 < S) (h : A * S = Q * (B * S) + R) (hR : R < B * S) : Q = A / B ∧ R / S = A % B := by
  have hB : 0 < B := Nat.pos_of_ne_zero fun z => by subst z; simp at hR
  have h1 := Nat.div_add_mod R S
  have h2 := Nat.mod_lt R hS
  -- R is a multiple of S
  have h3 : A * S = S * (Q * B + R / S) + R % S := by
    have e : Q * (B * S) = S * (Q * B) := by grind
    rw [h, e, Nat.mul_add]; omega
  have h4 : R % S = 0 := by
    have := congrArg (· % S) h3
    simp only [Nat.mul_mod_left] at this
    rw [Nat.add_comm, Nat.add_mul_mod_self_left, Nat.mod_mod] at this
    exact this.symm
  rw [h4, Nat.add_zero, Nat.mul_comm A] at h3
  have h5 := Nat.eq_of_mul_eq_mul_left hS h3
  have h6 : R / S < B := (Nat.div_lt_iff_lt_mul hS).2 hR
  constructor
  · rw [h5, Nat.mul_comm, Nat.mul_add_div hB, Nat.div_eq_of_lt h6, Nat.add_zero]
  · rw [h5, Nat.mul_comm, Nat.mul_add_mod, Nat.mod_eq_of_lt h6]
theorem start_lt {A S P D V X : Nat} (hA : A < D * P) (hS : S ≤ 2147483648) (hV : 2147483648 * P ≤ V) (hX : X * D ≤ A * S) (hD : 0 < D) (hS0 : 0 < S) : X < V := by
  have h1 : A * S < D * V := by
    have a1 : A * S < D * P * S := Nat.mul_lt_mul_of_pos_right hA hS0
    have a2 : D * P * S ≤ D * V := by
      have : P * S ≤ V := by
        have := Nat.mul_le_mul_left P hS
        rw [Nat.mul_comm P 2147483648] at this
        exact Nat.le_trans this hV
      rw [Nat.mul_assoc]
      exact Nat.mul_le_mul_left D this
    omega
  have h2 : X * D < V * D := by rw [Nat.mul_comm V]; exact Nat.lt_of_le_of_lt hX h1
  exact Nat.lt_of_mul_lt_mul_right h2
theorem nat_long_run (a b : List Int) (ha : limbs a) (hb : limbs b) (la : a.length ≤ 100000000) (n : Nat) (hbn : b.length = n + 2) (hba : b.length ≤ a.length) (htop : lm b (n + 1) ≠ 0) :
    (nat_long a b).run = some (ofN (nv a / nv b), ofN (nv a % nv b)) := by
  have ht := lm_lt hb (n + 1)
  obtain ⟨s, hs, hs1, hs2, hs3⟩ := lz32_run (x := lm b (n + 1)) (by omega) ht
  have hp31 : 2 ^ s ≤ 2147483648 := by
    have : 2 ^ s ≤ 2 ^ 31 := Nat.pow_le_pow_right (by omega) (by omega)
    exact this
  have hsp : 0 < 2 ^ s := Nat.pow_pos (by omega)
  have hBt := top2 b n hbn
  -- the divisor
  have hfitb : nv b * 2 ^ s < 4294967296 ^ b.length := by
    have h1 := nv_take_lm b (n + 1)
    rw [nv_take_all (by omega)] at h1
    have h2 := nv_take_lt hb (n + 1)
    have h3 : nv b < 4294967296 ^ (n + 1) * (lm b (n + 1) + 1) := by rw [h1, Nat.mul_add]; omega
    rw [hbn]
    have h4 : (lm b (n + 1) + 1) * 2 ^ s ≤ 4294967296 := by
      have hm : 4294967296 = 2 ^ (32 - s) * 2 ^ s := pow_split s (by omega)
      have h5 : lm b (n + 1) < 2 ^ (32 - s) := by
        rw [hm] at hs3
        exact Nat.lt_of_mul_lt_mul_right hs3
      have := Nat.mul_le_mul_right (2 ^ s) (show lm b (n + 1) + 1 ≤ 2 ^ (32 - s) from h5)
      rw [← hm] at this; exact this
    have h5 : nv b * 2 ^ s < 4294967296 ^ (n + 1) * (lm b (n + 1) + 1) * 2 ^ s := Nat.mul_lt_mul_of_pos_right h3 hsp
    have h6 : 4294967296 ^ (n + 1) * (lm b (n + 1) + 1) * 2 ^ s ≤ 4294967296 ^ (n + 2) := by
      rw [Nat.mul_assoc, Nat.pow_succ 4294967296 (n + 1)]
      exact Nat.mul_le_mul_left _ h4
    exact Nat.lt_of_lt_of_le h5 h6
  obtain ⟨d, hd, hdl, hdn, hdv⟩ := nat_left_S_run b hb (by omega) s b.length hs1 (Nat.le_refl _) (by omega) hfitb
  have hfita : nv a * 2 ^ s < 4294967296 ^ (a.length + 1) := by
    have h1 := nv_lt ha
    rw [Nat.pow_succ]
    exact Nat.mul_lt_mul_of_lt_of_le h1 (Nat.le_trans hp31 (by omega)) (by omega)
  obtain ⟨u, hu, hul, hun, huv⟩ := nat_left_S_run a ha (by omega) s (a.length + 1) hs1 (by omega) (by omega) hfita
  -- its highest limb
  have hdtop : 2147483648 ≤ lm d (n + 1) := by
    have h1 := nv_take_lm d (n + 1)
    rw [nv_take_all (by omega), hdv] at h1
    have h2 := nv_take_lt hdl (n + 1)
    have h3 := nv_take_lm b (n + 1)
    rw [nv_take_all (by omega)] at h3
    have h4 : 4294967296 ^ (n + 1) * (lm b (n + 1) * 2 ^ s) ≤ nv b * 2 ^ s := by
      rw [← Nat.mul_assoc]
      exact Nat.mul_le_mul_right _ (by omega)
    have h5 : 4294967296 ^ (n + 1) * 2147483648 ≤ nv b * 2 ^ s := Nat.le_trans (Nat.mul_le_mul_left _ hs2) h4
    have h6 : 4294967296 ^ (n + 1) * 2147483648 < 4294967296 ^ (n + 1) * (lm d (n + 1) + 1) := by
      rw [Nat.mul_add]; omega
    have := Nat.lt_of_mul_lt_mul_left h6
    omega
  have hst : nv (u.drop (a.length - (n + 2) + 1)) < nv d := by
    have h1 := nv_split u (a.length - (n + 2) + 1) (by omega)
    have h2 : nv (u.drop (a.length - (n + 2) + 1)) * 4294967296 ^ (a.length - (n + 2) + 1) ≤ nv a * 2 ^ s := by
      rw [← huv, h1, Nat.mul_comm]; omega
    have h3 : 2147483648 * 4294967296 ^ (n + 1) ≤ nv d := by
      have h4 := nv_take_lm d (n + 1)
      rw [nv_take_all (by omega)] at h4
      have h5 := Nat.mul_le_mul_left (4294967296 ^ (n + 1)) hdtop
      rw [Nat.mul_comm 2147483648]; omega
    have h4 : nv a < 4294967296 ^ (a.length - (n + 2) + 1) * 4294967296 ^ (n + 1) := by
      rw [← Nat.pow_add, show a.length - (n + 2) + 1 + (n + 1) = a.length by omega]
      exact nv_lt ha
    exact start_lt h4 hp31 h3 h2 (pow_pos' _) hsp
  obtain ⟨⟨xu, xq⟩, hr, hxu, hxun, hxq, hxqn, hxlt, hxv⟩ := long_loop d hdl a.length n (by omega) (by omega) (by omega) hdtop u hul (by omega) hst (s : Int)
  simp only at hxu hxun hxq hxqn hxlt hxv
  rw [huv, hdv] at hxv
  rw [hdv] at hxlt
  obtain ⟨f1, f2⟩ := long_fin hsp hxv hxlt
  -- the text
  have e1 : w64 ((b.length : Int) - 1) = ((n + 1 : Nat) : Int) := by rw [w64_in (by omega) (by omega)]; omega
  have es : wu64 (s : Int) = s := wu64n (by omega)
  have e2 : w64 ((a.length : Int) + 1) = ((a.length + 1 : Nat) : Int) := i1 _ (by omega)
  have e3 : w64 (w64 ((a.length : Int) - ((n + 2 : Nat) : Int)) + 1) = ((a.length - (n + 2) + 1 : Nat) : Int) := by rw [w64_in (x := (a.length : Int) - ((n + 2 : Nat) : Int)) (by omega) (by omega), w64_in (by omega) (by omega)]; omega
  have e4 : w64 (((a.length - (n + 2) + 1 : Nat) : Int) - 1) = ((a.length - (n + 2) : Nat) : Int) := im1 _ (by omega)
  have e5 : w64 (s : Int) = s := w64_in (by omega) (by omega)
  have e6 : w64 (0 - (s : Int)) = -(s : Int) := by rw [w64_in (by omega) (by omega)]; omega
  unfold nat_long
  simp only [e1, e2, dflt_u32, nth_lm hb]
  rw [T.run_idx _ (by omega) (by omega), T.run_bind_of hs]
  simp only [es]
  rw [T.run_bind_of hu, T.run_bind_of hd]
  simp only [e3, e4, e5, e6, Int.toNat_natCast, List.length_replicate, Nat.zero_add, List.drop_zero, List.take_length, hdn, hbn]
  rw [T.run_mk _ (by omega) (by omega) (by omega) (by omega), T.run_true, T.run_cur _ rfl rfl rfl, T.run_cur _ rfl rfl rfl, T.run_true, T.run_true]
  have hdn' : d.take (n + 2) = d := List.take_of_length_le (by omega)
  simp only [hdn']
  rw [T.run_bind_of hr]
  simp only [List.take_length]
  rw [T.run_true, T.run_true, T.run_bind_of (trim_run xq hxq (by omega)), T.run_sl _ (by omega) (by omega) (by omega)]
  have ec : cutL (e := .int .u32) 0 ((n + 2 : Nat) : Int) xu = xu.take (n + 2) := by unfold cutL; simp only [Int.toNat_natCast, Int.toNat_zero, List.drop_zero]
  have hxt : nv (xu.take (n + 2)) = nv xu := by
    have h1 := nv_split xu (n + 2) (by omega)
    have h2 := nv_top_zero hxu (n + 2) (by omega) (Nat.lt_trans hxlt (by rw [← hbn]; exact hfitb))
    rw [h2] at h1; omega
  rw [ec]
  have hsh : (nat_Shift (xu.take (n + 2)) (-(s : Int))).run = some (ofN (nv xu / 2 ^ s)) := by
    rcases Nat.eq_zero_or_pos s with z | z
    · subst z
      have := Shift_pos_run (xu.take (n + 2)) (limbs_take hxu _) (by simp; omega) 0 (by omega)
      rw [hxt] at this
      simpa using this
    · have := Shift_neg_run (xu.take (n + 2)) (limbs_take hxu _) (by simp; omega) s (by omega) z
      rw [hxt] at this
      exact this
  rw [T.run_bind_of hsh, T.run_ret, f2, f1]
end Go.AM.Lf
