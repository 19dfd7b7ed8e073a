/-
  Plain laws of the lifted program: P3l.
-/
import Derived.Test.YtgfadkdgifpddaaQP3k
set_option linter.unusedVariables false
namespace Go.AM.Lf
open PL
theorem nv_top_zero {D : List Int} (hl : limbs D) (k : Nat) (hk : k ≤ D.length) (h : nv D < 4294967296 ^ k) : nv (D.drop k) = 0 := by
  have h1 := nv_split D k hk
  rcases Nat.eq_zero_or_pos (nv (D.drop k)) with z | z
  · exact z
  · have := Nat.mul_le_mul_left (4294967296 ^ k) z
    omega
theorem nv_lt_of_top {D : List Int} (hl : limbs D) (k : Nat) (hk : k ≤ D.length) (h : nv (D.drop k) = 0) : nv D < 4294967296 ^ k := by
  have h1 := nv_split D k hk
  have h2 := nv_take_lt hl k
  rw [h] at h1; omega
theorem last_alg {X X' P q N c bo w d Y k : Nat} (h : X + q * N = Y + (bo + c) * P) (hs : X' + P * w = X + P * d) (hd : d + (c + bo) = w + 4294967296 * k) : X' + q * N = Y + k * (P * 4294967296) := by
  have e1 : P * (d + (c + bo)) = P * (w + 4294967296 * k) := by rw [hd]
  have e2 : X' + q * N + (P * w + P * (c + bo)) = Y + k * (P * 4294967296) + (P * w + P * (c + bo)) := by
    have e3 : X' + q * N + (P * w + P * (c + bo)) = (X' + P * w) + q * N + P * (c + bo) := by grind
    rw [e3, hs]
    have e4 : X + P * d + q * N + P * (c + bo) = (X + q * N) + P * (d + (c + bo)) := by grind
    rw [e4, h, e1]; grind
  omega
theorem back_fin {Z Y X U P L m p N : Nat} (h1 : Z + P * L = Y + P * ((L + m) % 4294967296)) (h2 : Y + m * P = X + N) (h3 : X + (p + 1) * N = U + 1 * (P * 4294967296)) (h4 : Z < P * 4294967296) (h5 : (p + 1) * N ≤ U + N)
    (hm : m ≤ 1) (hL : L < 4294967296) : Z + (p + 1 - 1) * N = U := by
  rw [distr2] at h3 h5
  rw [Nat.add_sub_cancel]
  rw [Nat.mul_comm m P] at h2
  by_cases hov : L + m < 4294967296
  · rw [Nat.mod_eq_of_lt hov, Nat.mul_add] at h1
    generalize P * L = a at *
    generalize P * m = b at *
    generalize p * N = c at *
    omega
  · have hov2 : (L + m) % 4294967296 = 0 := by omega
    have e5 : P * (L + m) = P * 4294967296 := by congr 1; omega
    rw [hov2, Nat.mul_zero] at h1
    rw [Nat.mul_add] at e5
    generalize P * L = a at *
    generalize P * m = b at *
    generalize p * N = c at *
    omega
theorem takes_run (b : List Int) (hb : limbs b) (lb : b.length ≤ 1000000000) (q : Nat) (hq : q < 4294967296) (u : List Int) (hu : limbs u) (lu : u.length ≤ 4000000000) (o : Nat) (ho : o + b.length < u.length)
    (hfit : nv (u.drop o) < 4294967296 ^ (b.length + 1)) (hnear : q * nv b ≤ nv (u.drop o) + nv b) :
    ∃ xs : List Int, (nat_takes_S (o, b.length + 1) b (q : Int) u).run = some (decide (nv (u.drop o) < q * nv b), xs) ∧ limbs xs ∧ xs.length = u.length ∧ xs.take o = u.take o ∧
      nv (xs.drop o) + (if nv (u.drop o) < q * nv b then q - 1 else q) * nv b = nv (u.drop o) := by
  obtain ⟨⟨_, _, _, xs⟩, hr, rfl, c, bo, rfl, rfl, hc, hbo, hl, hn, ht, hd, hv⟩ := takes1 b hb lb q hq u hu o ho
  simp only at hl hn ht hd hv
  have hBl := nv_lt hb
  have hx := lm_lt hl (o + b.length)
  have hs := sub32_run hx hc hbo
  have hdl : lm xs (o + b.length) + 4294967296 * (if lm xs (o + b.length) < c + bo then 1 else 0) - (c + bo) < 4294967296 := by split <;> omega
  have hbw : (if lm xs (o + b.length) < c + bo then 1 else 0) ≤ 1 := by split <;> omega
  have hde : lm xs (o + b.length) + 4294967296 * (if lm xs (o + b.length) < c + bo then 1 else 0) - (c + bo) + (c + bo) = lm xs (o + b.length) + 4294967296 * (if lm xs (o + b.length) < c + bo then 1 else 0) := by split <;> omega
  generalize lm xs (o + b.length) + 4294967296 * (if lm xs (o + b.length) < c + bo then 1 else 0) - (c + bo) = D at *
  generalize (if lm xs (o + b.length) < c + bo then 1 else 0) = B2 at *
  have hset := nv_set (a := xs.drop o) (i := b.length) (D : Int) (by simp; omega)
  rw [Int.toNat_natCast, lm_drop', ← drop_set'] at hset
  have hfin := last_alg hv hset hde
  have hl1 : limbs (xs.set (o + b.length) (D : Int)) := limbs_setN hl _ hdl
  have hn1 : (xs.set (o + b.length) (D : Int)).length = u.length := by simpa using hn
  have ht1 : (xs.set (o + b.length) (D : Int)).take o = u.take o := by rw [List.take_set_of_le (by omega), ht]
  have hd1 : ((xs.set (o + b.length) (D : Int)).drop o).drop (b.length + 1) = (u.drop o).drop (b.length + 1) := by
    rw [drop_set', set_drop_succ]
    have := congrArg (List.drop 1) hd
    rw [List.drop_drop, List.drop_drop] at this
    simpa [Nat.add_assoc, Nat.add_comm] using this
  have hz := nv_top_zero (limbs_drop hu o) (b.length + 1) (by simp; omega) hfit
  have hlt1 : nv ((xs.set (o + b.length) (D : Int)).drop o) < 4294967296 ^ (b.length + 1) := nv_lt_of_top (limbs_drop hl1 o) _ (by simp; omega) (by rw [hd1]; exact hz)
  have epow : (4294967296 : Nat) ^ (b.length + 1) = 4294967296 ^ b.length * 4294967296 := Nat.pow_succ ..
  have ec : wu32 (c : Int) = c := wu32n hc
  unfold nat_takes_S
  rw [T.run_eqN _ rfl, T.run_eqN _ rfl, T.run_bind_of hr]
  simp only [Int.toNat_natCast, dflt_u32, nthN_lm hl, ec]
  rw [T.run_idx _ (by omega) (by omega), T.run_e _ rfl (by omega), T.run_bind_of hs]
  simp only
  rw [T.run_idx _ (by omega) (by omega), T.run_e _ rfl (by omega)]
  generalize hX : xs.set (o + b.length) (D : Int) = X at *
  rcases Nat.eq_zero_or_pos B2 with z | z
  · subst z
    rw [T.run_ite_t (by simp), T.run_eqN _ (by omega), T.run_ret]
    have hnl : ¬ (nv (u.drop o) < q * nv b) := by omega
    refine ⟨X, by rw [decide_eq_false hnl], hl1, hn1, ht1, ?_⟩
    rw [if_neg hnl]; omega
  · have hB2 : B2 = 1 := by omega
    subst hB2
    have hlt : nv (u.drop o) < q * nv b := by omega
    obtain ⟨⟨_, _, ys⟩, hr2, rfl, m, rfl, hm, hl2, hn2, ht2, hd2, hv2⟩ := takes2 b hb lb X hl1 o (by omega)
    simp only at hl2 hn2 ht2 hd2 hv2
    have hy := lm_lt hl2 (o + b.length)
    have eu : wu32 ((lm ys (o + b.length) : Int) + (m : Int)) = (((lm ys (o + b.length) + m) % 4294967296 : Nat) : Int) := by rw [← lo32]; rfl
    rw [T.run_ite_f (by simp), T.run_true, T.run_eqN _ (by omega), T.run_bind_of hr2]
    simp only [Int.toNat_natCast, dflt_u32, nthN_lm hl2, eu]
    rw [T.run_idx _ (by omega) (by omega), T.run_e _ rfl (by omega), T.run_idx _ (by omega) (by omega), T.run_e _ rfl (by omega), T.run_eqN _ (by simp), T.run_ret]
    have hset2 := nv_set (a := ys.drop o) (i := b.length) (((lm ys (o + b.length) + m) % 4294967296 : Nat) : Int) (by simp; omega)
    rw [Int.toNat_natCast, lm_drop', ← drop_set'] at hset2
    have hl3 : limbs (ys.set (o + b.length) (((lm ys (o + b.length) + m) % 4294967296 : Nat) : Int)) := limbs_setN hl2 _ (by omega)
    have hd3 : ((ys.set (o + b.length) (((lm ys (o + b.length) + m) % 4294967296 : Nat) : Int)).drop o).drop (b.length + 1) = (u.drop o).drop (b.length + 1) := by
      rw [drop_set', set_drop_succ, ← hd1]
      have := congrArg (List.drop 1) hd2
      rw [List.drop_drop, List.drop_drop] at this
      simpa [Nat.add_assoc, Nat.add_comm] using this
    have hlt3 : nv ((ys.set (o + b.length) (((lm ys (o + b.length) + m) % 4294967296 : Nat) : Int)).drop o) < 4294967296 ^ (b.length + 1) := nv_lt_of_top (limbs_drop hl3 o) _ (by simp; omega) (by rw [hd3]; exact hz)
    refine ⟨_, by rw [decide_eq_true hlt], hl3, by simp; omega, ?_, ?_⟩
    · rw [List.take_set_of_le (by omega), ht2, ht1]
    · rw [if_pos hlt]
      generalize nv ((ys.set (o + b.length) (((lm ys (o + b.length) + m) % 4294967296 : Nat) : Int)).drop o) = Z at *
      obtain ⟨p, rfl⟩ : ∃ p, q = p + 1 := ⟨q - 1, by
        rcases Nat.eq_zero_or_pos q with h | h
        · subst h; omega
        · omega⟩
      rw [epow] at hlt3
      exact back_fin hset2 hv2 hfin hlt3 hnear hm hy
end Go.AM.Lf
