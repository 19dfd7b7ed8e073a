/-
  Plain laws of the lifted program: P3e.
-/
import Derived.Test.YtgfadkdgifpddaaQP3d
set_option linter.unusedVariables false
namespace Go.AM.Lf
open PL
theorem mul_le_64 {x y : Nat} (hx : x < 4294967296) (hy : y < 4294967296) : x * y ≤ 18446744065119617025 := Nat.mul_le_mul (show x ≤ 4294967295 by omega) (show y ≤ 4294967295 by omega)
/-- carry + v * w + o, as the program reckons it. -/
theorem mac {c v w o : Nat} (hc : c < 4294967296) (hv : v < 4294967296) (hw : w < 4294967296) (ho : o < 4294967296) :
    wu64 ((c : Int) + wu64 (wu64 ((v : Int) * (w : Int)) + (o : Int))) = ((c + v * w + o : Nat) : Int) ∧ c + v * w + o < 18446744073709551616 ∧ (c + v * w + o) / 4294967296 < 4294967296 := by
  have h := mul_le_64 hv hw
  have e : (v : Int) * (w : Int) = ((v * w : Nat) : Int) := by simp
  rw [e]
  generalize v * w = z at *
  rw [wu64_in (x := (z : Int)) (by omega) (by omega), wu64_in (x := (z : Int) + o) (by omega) (by omega), wu64_in (by omega) (by omega)]
  omega
theorem mac2 {c v w o : Nat} (hc : c < 4294967296) (hv : v < 4294967296) (hw : w < 4294967296) (ho : o < 4294967296) :
    wu64 (wu64 ((c : Int) + wu64 ((v : Int) * (w : Int))) + (o : Int)) = ((c + v * w + o : Nat) : Int) := by
  have h := mul_le_64 hv hw
  have e : (v : Int) * (w : Int) = ((v * w : Nat) : Int) := by simp
  rw [e]
  generalize v * w = z at *
  rw [wu64_in (x := (z : Int)) (by omega) (by omega), wu64_in (x := (c : Int) + z) (by omega) (by omega), wu64_in (by omega) (by omega)]
  omega
theorem mul_step {P Q X Z c v w o W t : Nat} (h : X + c * P = Z + Q * (v * W)) (hP : P = Q * t) :
    X + P * ((c + v * w + o) % 4294967296) + (c + v * w + o) / 4294967296 * (P * 4294967296) = Z + P * o + Q * (v * (W + t * w)) := by
  have e : (c + v * w + o) = (c + v * w + o) % 4294967296 + 4294967296 * ((c + v * w + o) / 4294967296) := by omega
  generalize (c + v * w + o) % 4294967296 = lo at *
  generalize (c + v * w + o) / 4294967296 = hi at *
  have e2 : P * (c + v * w + o) = P * (lo + 4294967296 * hi) := by rw [e]
  have e3 : X + P * lo + hi * (P * 4294967296) = X + P * (lo + 4294967296 * hi) := by grind
  rw [e3, ← e2]
  have e4 : X + P * (c + v * w + o) = (X + c * P) + P * (v * w) + P * o := by grind
  rw [e4, h, hP]
  grind
theorem nth_set_ne (xs : List Int) (i : Nat) (x : Int) (j : Nat) (h : i ≠ j) : lm (xs.set i x) j = lm xs j := by
  by_cases hi : i < xs.length
  · rw [lm_set hi, if_neg h]
  · rw [List.set_eq_of_length_le (by omega)]
theorem nat_Mul_inner (b : List Int) (hb : limbs b) (lb : b.length ≤ 1000000000) (P : List Int) (hP : limbs P) (i : Nat) (hi : i ≤ 1000000000) (hPl : i + b.length < P.length) (v : Nat) (hv : v < 4294967296) (x3 : List Int) (x4 : Int) :
    ∃ r : Int × List Int, (nat_Mul_L1 b (i : Int) (v : Int) x3 x4 (i : Int) b (b.length : Int) (0, 0, P)).run = some r ∧ ∃ c : Nat, r.1 = (c : Int) ∧ c < 4294967296 ∧ limbs r.2 ∧ r.2.length = P.length ∧
      nv (r.2.take (i + b.length)) + c * 4294967296 ^ (i + b.length) = nv (P.take (i + b.length)) + 4294967296 ^ i * (v * nv b) := by
  refine T.loop_post (fun s : Int × Int × List Int => ∃ (c k : Nat), s.1 = (c : Int) ∧ s.2.1 = (k : Int) ∧ c < 4294967296 ∧ k ≤ b.length ∧ limbs s.2.2 ∧ s.2.2.length = P.length ∧ (∀ j, i + k ≤ j → lm s.2.2 j = lm P j) ∧
      nv (s.2.2.take (i + k)) + c * 4294967296 ^ (i + k) = nv (P.take (i + k)) + 4294967296 ^ i * (v * nv (b.take k)))
    (fun s => b.length - s.2.1.toNat) _ ?_ ⟨0, 0, rfl, rfl, by omega, by omega, hP, rfl, fun _ _ => rfl, by simp⟩
  rintro ⟨_, _, xs⟩ ⟨c, k, rfl, rfl, hc, hk, hl, hn, hj, hv2⟩
  simp only at hl hn hj hv2 ⊢
  by_cases hlt : k < b.length
  · left
    have hw := lm_lt hb k
    have ho := lm_lt hl (i + k)
    obtain ⟨m1, m2, m3⟩ := mac hc hv hw ho
    have eik : w64 ((i : Int) + (k : Int)) = ((i + k : Nat) : Int) := by rw [w64_in (by omega) (by omega)]; omega
    refine ⟨((((c + v * lm b k + lm xs (i + k)) / 4294967296 : Nat) : Int), ((k + 1 : Nat) : Int), xs.set (i + k) (((c + v * lm b k + lm xs (i + k)) % 4294967296 : Nat) : Int)), ?_, ⟨_, k + 1, rfl, rfl, m3, by omega, limbs_set hl _ (by omega) (by omega), by simpa using hn, fun j h => by simp only; rw [nth_set_ne _ _ _ _ (by omega), hj j (by omega)], ?_⟩, by simp; omega⟩
    · unfold nat_Mul_R1
      have ev : wu64 (v : Int) = v := wu64_in (by omega) (by omega)
      have ew : wu64 (lm b k : Int) = lm b k := wu64_in (by omega) (by omega)
      have eo : wu64 (lm xs (i + k) : Int) = lm xs (i + k) := wu64_in (by omega) (by omega)
      simp only [dflt_u32, eik, Int.toNat_natCast, Nat.zero_add, nth_lm hb, nthN_lm hl, ev, ew, eo, m1, lo32, hi32, i1 k (by omega)]
      simp (disch := omega) [hlt, hn]
    · simp only
      rw [show i + (k + 1) = (i + k) + 1 by omega, nv_set_take _ (by omega), nv_take_lm, nv_take_lm, Nat.pow_succ, Int.toNat_natCast, ← hj (i + k) (by omega)]
      exact mul_step hv2 (Nat.pow_add _ _ _)
  · right
    have : k = b.length := by omega
    subst this
    refine ⟨((c : Int), xs), ?_, c, rfl, hc, hl, hn, ?_⟩
    · unfold nat_Mul_R1
      simp
    · simpa [List.take_length] using hv2
theorem row_step {T V c P A Bn Q a : Nat} (h : V + c * P = T + Q * (a * Bn)) (hT : T = A * Bn) : V + P * c = (A + Q * a) * Bn := by
  have : V + P * c = V + c * P := by rw [Nat.mul_comm]
  rw [this, h, hT]; grind
theorem nat_Mul_run (a b : List Int) (ha : limbs a) (hb : limbs b) (la : a.length ≤ 1000000000) (lb : b.length ≤ 1000000000) : (nat_Mul a b).run = some (ofN (nv a * nv b)) := by
  have qa := ofN_nv_len ha
  have qb := ofN_nv_len hb
  unfold nat_Mul
  rw [T.run_bind_of (trim_run a ha (by omega)), T.run_bind_of (trim_run b hb (by omega))]
  generalize nv a = A at *
  generalize nv b = B at *
  have hx := limbs_ofN A
  have hy := limbs_ofN B
  have hxn := nv_ofN A
  have hyn := nv_ofN B
  generalize ofN A = x at *
  generalize ofN B = y at *
  have ew : w64 ((x.length : Int) + (y.length : Int)) = ((x.length + y.length : Nat) : Int) := by rw [w64_in (by omega) (by omega)]; omega
  rw [ew]
  simp only [Int.toNat_natCast, List.length_replicate]
  have loop : ∃ r : List Int, (nat_Mul_L0 y x (x.length : Int) (0, List.replicate (x.length + y.length) 0)).run = some r ∧ limbs r ∧ r.length = x.length + y.length ∧ nv r = A * B := by
    refine T.loop_post (fun s : Int × List Int => ∃ i : Nat, s.1 = (i : Int) ∧ i ≤ x.length ∧ limbs s.2 ∧ s.2.length = x.length + y.length ∧ nv (s.2.take (i + y.length)) = nv (x.take i) * B)
      (fun s => x.length - s.1.toNat) _ ?_ ⟨0, rfl, by omega, limbs_replicate _, by simp, by simp [List.take_replicate]⟩
    rintro ⟨_, xs⟩ ⟨i, rfl, hi, hl, hn, hv⟩
    simp only at hl hn hv ⊢
    by_cases hlt : i < x.length
    · left
      have hxl := lm_lt hx i
      obtain ⟨⟨_, ys⟩, hr, c, rfl, hc, hl2, hn2, hv2⟩ := nat_Mul_inner y hy (by omega) xs hl i (by omega) (by omega) (lm x i) hxl x (x.length : Int)
      simp only at hl2 hn2 hv2
      have eik : w64 ((i : Int) + (y.length : Int)) = ((i + y.length : Nat) : Int) := by rw [w64_in (by omega) (by omega)]; omega
      refine ⟨(((i + 1 : Nat) : Int), ys.set (i + y.length) (c : Int)), ?_, ⟨i + 1, rfl, by omega, limbs_set hl2 _ (by omega) (by omega), by simp; omega, ?_⟩, by simp; omega⟩
      · unfold nat_Mul_R0
        have ec : wu32 (c : Int) = c := wu32_in (by omega) (by omega)
        simp only [T.run_iteS, dflt_u32, nth_lm hx, eik, Int.toNat_natCast, Nat.zero_add, ec, i1 i (by omega)]
        rw [if_pos (by simpa using hlt), T.run_idx _ (by omega) (by omega), T.run_cur _ rfl rfl rfl, T.run_true, T.run_bind_of hr]
        simp (disch := omega) [hn2]
      · simp only
        rw [show i + 1 + y.length = (i + y.length) + 1 by omega, nv_set_take _ (by omega), nv_take_lm, Int.toNat_natCast]
        rw [hyn] at hv2
        exact row_step hv2 hv
    · right
      have : i = x.length := by omega
      subst this
      refine ⟨xs, ?_, hl, hn, ?_⟩
      · unfold nat_Mul_R0
        simp
      · rw [nv_take_all (by omega), List.take_length, hxn] at hv; exact hv
  obtain ⟨xs, hr, hl, hn, hv⟩ := loop
  rw [T.run_mk _ (by omega) (by omega) (by omega) (by omega), T.run_cur _ rfl rfl rfl, T.run_true, T.run_bind_of hr]
  simp only [Nat.zero_add, List.drop_zero, List.take_length]
  rw [T.run_true, T.run_bind_of (trim_run xs hl (by omega)), T.run_ret, hv]

theorem mul_step1 {N P Q X' X Z c v w o W t : Nat} (hX : X' + P * o = X + P * ((c + v * w + o) % 4294967296)) (h : X + c * P = Z + Q * (v * W)) (hP : P = Q * t) :
    X' + (c + v * w + o) / 4294967296 * (P * 4294967296) = Z + Q * (v * (W + t * w)) := by
  have := mul_step (P := P) (Q := Q) (X := X) (Z := Z) (c := c) (v := v) (w := w) (o := o) (W := W) (t := t) h hP
  omega
theorem ref1_Mul_inner (a b : List Int) (ha : limbs a) (hb : limbs b) (la : a.length ≤ 1000000000) (lb : b.length ≤ 1000000000) (P : List Int) (hP : limbs P) (i : Nat) (hi : i < a.length) (hPl : P.length = a.length + b.length)
    (hbd : nv P + 4294967296 ^ i * (lm a i * nv b) < 4294967296 ^ (a.length + b.length)) :
    ∃ r : List Int, (ref1_Mul_L1 a b (i : Int) (0, 0, P)).run = some r ∧ limbs r ∧ r.length = P.length ∧ nv r = nv P + 4294967296 ^ i * (lm a i * nv b) := by
  have hv := lm_lt ha i
  refine T.loop_post (fun s : Int × Int × List Int => ∃ (c k : Nat), s.1 = (c : Int) ∧ s.2.1 = (k : Int) ∧ c < 4294967296 ∧ i + k ≤ a.length + b.length ∧ limbs s.2.2 ∧ s.2.2.length = P.length ∧
      nv s.2.2 + c * 4294967296 ^ (i + k) = nv P + 4294967296 ^ i * (lm a i * nv (b.take k)))
    (fun s => a.length + b.length - s.2.1.toNat) _ ?_ ⟨0, 0, rfl, rfl, by omega, by omega, hP, rfl, by simp⟩
  rintro ⟨_, _, xs⟩ ⟨c, k, rfl, rfl, hc, hk, hl, hn, hv2⟩
  simp only at hl hn hv2 ⊢
  have eik : w64 ((i : Int) + (k : Int)) = ((i + k : Nat) : Int) := by rw [w64_in (by omega) (by omega)]; omega
  by_cases hgo : k < b.length ∨ 0 < c
  · have eg : (decide ((k : Int) < (b.length : Int)) || decide ((0 : Int) < (c : Int))) = true := by simpa using hgo
    by_cases hbr : a.length + b.length ≤ i + k
    · right
      refine ⟨xs, ?_, hl, hn, ?_⟩
      · unfold ref1_Mul_R1
        simp only [eg, eik, T.run_ite_true, hn, hPl]
        rw [T.run_ite_t (by simpa using (by omega))]
        simp (disch := omega)
      · rw [nv_take_all (by omega)] at hv2
        have hxs := nv_lt hl
        rw [hn, hPl] at hxs
        have e : i + k = a.length + b.length := by omega
        rw [e] at hv2
        rcases Nat.eq_zero_or_pos c with z | z
        · subst z; omega
        · have := Nat.mul_le_mul_right (4294967296 ^ (a.length + b.length)) z
          omega
    · left
      have hw := lm_lt hb k
      have ho := lm_lt hl (i + k)
      obtain ⟨m1, m2, m3⟩ := mac hc hv hw ho
      have m4 := mac2 hc hv hw ho
      refine ⟨((((c + lm a i * lm b k + lm xs (i + k)) / 4294967296 : Nat) : Int), ((k + 1 : Nat) : Int), xs.set (i + k) (((c + lm a i * lm b k + lm xs (i + k)) % 4294967296 : Nat) : Int)), ?_, ⟨_, k + 1, rfl, rfl, m3, by omega, limbs_set hl _ (by omega) (by omega), by simpa using hn, ?_⟩, by simp; omega⟩
      · unfold ref1_Mul_R1
        have ev : wu64 (lm a i : Int) = lm a i := wu64_in (by omega) (by omega)
        have eo : wu64 (lm xs (i + k) : Int) = lm xs (i + k) := wu64_in (by omega) (by omega)
        simp only [eg, T.run_ite_true, hn, eik]
        rw [T.run_ite_f (by simpa using (by omega)), T.run_idx _ (by omega) (by omega), T.run_bind_of (ref1_at_run b hb k)]
        simp only [dflt_u32, nth_lm ha, nthN_lm hl, Int.toNat_natCast, Nat.zero_add, ev, eo, m4, lo32, hi32, i1 k (by omega)]
        simp (disch := omega) [hn]
      · simp only
        rw [show i + (k + 1) = (i + k) + 1 by omega, nv_take_lm, Nat.pow_succ]
        have hset := nv_set (a := xs) (i := i + k) ((((c + lm a i * lm b k + lm xs (i + k)) % 4294967296 : Nat) : Int)) (by omega)
        rw [Int.toNat_natCast] at hset
        exact mul_step1 (N := 0) hset hv2 (Nat.pow_add _ _ _)
  · right
    have hk2 : b.length ≤ k ∧ c = 0 := by omega
    obtain ⟨hk2, rfl⟩ := hk2
    refine ⟨xs, ?_, hl, hn, ?_⟩
    · unfold ref1_Mul_R1
      rw [T.run_ite_f (by simpa using hk2)]
      simp (disch := omega)
    · rw [nv_take_all hk2] at hv2; simpa using hv2
theorem ref1_Mul_run (a b : List Int) (ha : limbs a) (hb : limbs b) (la : a.length ≤ 1000000000) (lb : b.length ≤ 1000000000) : (ref1_Mul a b).run = some (ofN (nv a * nv b)) := by
  have ew : w64 ((a.length : Int) + (b.length : Int)) = ((a.length + b.length : Nat) : Int) := by rw [w64_in (by omega) (by omega)]; omega
  unfold ref1_Mul
  rw [ew]
  simp only [Int.toNat_natCast, List.length_replicate]
  have htot : nv a * nv b < 4294967296 ^ (a.length + b.length) := by
    rw [Nat.pow_add]
    exact Nat.mul_lt_mul'' (nv_lt ha) (nv_lt hb)
  have loop : ∃ r : List Int, (ref1_Mul_L0 a b (0, List.replicate (a.length + b.length) 0)).run = some r ∧ limbs r ∧ r.length = a.length + b.length ∧ nv r = nv a * nv b := by
    refine T.loop_post (fun s : Int × List Int => ∃ i : Nat, s.1 = (i : Int) ∧ i ≤ a.length ∧ limbs s.2 ∧ s.2.length = a.length + b.length ∧ nv s.2 = nv (a.take i) * nv b)
      (fun s => a.length - s.1.toNat) _ ?_ ⟨0, rfl, by omega, limbs_replicate _, by simp, by simp⟩
    rintro ⟨_, xs⟩ ⟨i, rfl, hi, hl, hn, hv⟩
    simp only at hl hn hv ⊢
    by_cases hlt : i < a.length
    · left
      have e1 : nv xs + 4294967296 ^ i * (lm a i * nv b) = nv (a.take (i + 1)) * nv b := by rw [hv, nv_take_lm]; grind
      have hle : nv (a.take (i + 1)) * nv b ≤ nv a * nv b := Nat.mul_le_mul_right _ (nv_take_le a (i + 1))
      obtain ⟨ys, hr, hl2, hn2, hv2⟩ := ref1_Mul_inner a b ha hb la lb xs hl i hlt hn (by rw [e1]; exact Nat.lt_of_le_of_lt hle htot)
      refine ⟨(((i + 1 : Nat) : Int), ys), ?_, ⟨i + 1, rfl, by omega, hl2, hn2.trans hn, hv2.trans e1⟩, by simp; omega⟩
      unfold ref1_Mul_R0
      simp only [T.run_iteS, i1 i (by omega)]
      rw [if_pos (by simpa using hlt), T.run_cur _ rfl rfl rfl, T.run_true, T.run_bind_of hr]
      simp (disch := omega)
    · right
      have : i = a.length := by omega
      subst this
      refine ⟨xs, ?_, hl, hn, ?_⟩
      · unfold ref1_Mul_R0
        simp
      · rw [List.take_length] at hv; exact hv
  obtain ⟨xs, hr, hl, hn, hv⟩ := loop
  rw [T.run_mk _ (by omega) (by omega) (by omega) (by omega), T.run_cur _ rfl rfl rfl, T.run_true, T.run_bind_of hr]
  simp only [Nat.zero_add, List.drop_zero, List.take_length]
  rw [T.run_true, T.run_bind_of (rTrim_run xs hl (by omega)), T.run_ret, hv]
end Go.AM.Lf
