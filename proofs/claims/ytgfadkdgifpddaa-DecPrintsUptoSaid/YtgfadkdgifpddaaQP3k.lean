/-
  Plain laws of the lifted program: P3k.
-/
import Derived.Test.YtgfadkdgifpddaaQP3j
set_option linter.unusedVariables false
namespace Go.AM.Lf
open PL
theorem sub32_run {x y b : Nat} (hx : x < 4294967296) (hy : y < 4294967296) (hb : b ≤ 1) :
    (math_bits_Sub32 (x : Int) (y : Int) (b : Int)).run = some ((((x + 4294967296 * (if x < y + b then 1 else 0)) - (y + b) : Nat) : Int), ((if x < y + b then 1 else 0 : Nat) : Int)) := by
  have e1 := sub32 hx hy hb
  have e2 := borrow32 hx hy hb rfl
  unfold math_bits_Sub32
  rw [T.run_leI _ (by omega), e1, e2, T.run_ret]
  have e3 : (x + 4294967296 * (if x < y + b then 1 else 0)) - y - b = (x + 4294967296 * (if x < y + b then 1 else 0)) - (y + b) := by omega
  rw [e3]
  split <;> rfl
theorem add32_run {x y b : Nat} (hx : x < 4294967296) (hy : y < 4294967296) (hb : b ≤ 1) :
    (math_bits_Add32 (x : Int) (y : Int) (b : Int)).run = some ((((x + y + b) % 4294967296 : Nat) : Int), (((x + y + b) / 4294967296 : Nat) : Int)) := by
  have e : wu64 (wu64 ((x : Int) + (y : Int)) + (b : Int)) = ((x + y + b : Nat) : Int) := by rw [wu64_in (x := (x : Int) + y) (by omega) (by omega), wu64_in (by omega) (by omega)]; omega
  unfold math_bits_Add32
  rw [T.run_leI _ (by omega), wu64n (by omega), wu64n (by omega), wu64n (by omega), e, hi32, lo32, wu32n (by omega), T.run_ret]
theorem drop_set' (xs : List Int) (o i : Nat) (x : Int) : (xs.set (o + i) x).drop o = (xs.drop o).set i x := by
  rw [List.drop_set, if_neg (by omega)]; congr 1; omega
theorem lm_drop' (xs : List Int) (o i : Nat) : lm (xs.drop o) i = lm xs (o + i) := by
  unfold lm nth
  rw [show (((o + i : Nat) : Int)).toNat = o + i by omega, Int.toNat_natCast]
  simp [List.getD_eq_getElem?_getD, List.getElem?_drop]
theorem take_alg {X X' P N c bo q v w lo hi d Y k : Nat} (h : X + q * N = Y + (bo + c) * P) (hs : X' + P * w = X + P * d) (hc : c + q * v = lo + 4294967296 * hi) (hd : d + (lo + bo) = w + 4294967296 * k) :
    X' + q * (N + P * v) = Y + (k + hi) * (P * 4294967296) := by
  have e1 : P * (d + (lo + bo)) = P * (w + 4294967296 * k) := by rw [hd]
  have e2 : P * (c + q * v) = P * (lo + 4294967296 * hi) := by rw [hc]
  have e3 : X' + P * w + q * N + P * (c + q * v) + P * (lo + bo) = X' + q * (N + P * v) + (P * w + P * c + P * (lo + bo)) := by grind
  have e4 : X' + P * w + q * N + P * (c + q * v) + P * (lo + bo) = Y + (k + hi) * (P * 4294967296) + (P * w + P * c + P * (lo + bo)) := by
    rw [hs, e2]
    have e5 : X + P * d + q * N + P * (lo + 4294967296 * hi) + P * (lo + bo) = (X + q * N) + P * (d + (lo + bo)) + P * (lo + 4294967296 * hi) := by grind
    rw [e5, e1, h]; grind
  omega
theorem qv_lt {c q v : Nat} (hc : c < 4294967296) (hq : q < 4294967296) (hv : v < 4294967296) : wu64 ((c : Int) + wu64 ((q : Int) * (v : Int))) = ((c + q * v : Nat) : Int) ∧ (c + q * v) / 4294967296 < 4294967296 := by
  have h := mul_le_64 hq hv
  have e : (q : Int) * (v : Int) = ((q * v : Nat) : Int) := by simp
  rw [e]
  generalize q * v = z at *
  rw [wu64_in (x := (z : Int)) (by omega) (by omega), wu64_in (by omega) (by omega)]
  omega
/-- The first loop of takes. -/
theorem takes1 (b : List Int) (hb : limbs b) (lb : b.length ≤ 1000000000) (q : Nat) (hq : q < 4294967296) (u : List Int) (hu : limbs u) (o : Nat) (ho : o + b.length < u.length) :
    ∃ r : (Nat × Nat) × Int × Int × List Int, (nat_takes_S_L0 b (q : Int) b (b.length : Int) ((o, b.length + 1), 0, 0, 0, u)).run = some r ∧ r.1 = (o, b.length + 1) ∧ ∃ c bo : Nat, r.2.1 = (c : Int) ∧ r.2.2.1 = (bo : Int) ∧ c < 4294967296 ∧ bo ≤ 1 ∧ limbs r.2.2.2 ∧
      r.2.2.2.length = u.length ∧ r.2.2.2.take o = u.take o ∧ (r.2.2.2.drop o).drop b.length = (u.drop o).drop b.length ∧ nv (r.2.2.2.drop o) + q * nv b = nv (u.drop o) + (bo + c) * 4294967296 ^ b.length := by
  refine T.loop_post (fun s : (Nat × Nat) × Int × Int × Int × List Int => s.1 = (o, b.length + 1) ∧ ∃ c bo i : Nat, s.2.1 = (c : Int) ∧ s.2.2.1 = (bo : Int) ∧ s.2.2.2.1 = (i : Int) ∧ c < 4294967296 ∧ bo ≤ 1 ∧ i ≤ b.length ∧ limbs s.2.2.2.2 ∧
      s.2.2.2.2.length = u.length ∧ s.2.2.2.2.take o = u.take o ∧ (s.2.2.2.2.drop o).drop i = (u.drop o).drop i ∧ nv (s.2.2.2.2.drop o) + q * nv (b.take i) = nv (u.drop o) + (bo + c) * 4294967296 ^ i)
    (fun s => b.length - s.2.2.2.1.toNat) _ ?_ ⟨rfl, 0, 0, 0, rfl, rfl, rfl, by omega, by omega, by omega, hu, rfl, rfl, rfl, by simp⟩
  rintro ⟨_, _, _, _, xs⟩ ⟨rfl, c, bo, i, rfl, rfl, rfl, hc, hbo, hi, hl, hn, ht, hd, hv⟩
  simp only at hl hn ht hd hv ⊢
  by_cases hlt : i < b.length
  · left
    have hw := lm_lt hb i
    have hx := lm_lt hl (o + i)
    obtain ⟨m1, m2⟩ := qv_lt hc hq hw
    have hs := sub32_run hx (show (c + q * lm b i) % 4294967296 < 4294967296 by omega) hbo
    have hdl : lm xs (o + i) + 4294967296 * (if lm xs (o + i) < (c + q * lm b i) % 4294967296 + bo then 1 else 0) - ((c + q * lm b i) % 4294967296 + bo) < 4294967296 := by split <;> omega
    have hbw : (if lm xs (o + i) < (c + q * lm b i) % 4294967296 + bo then 1 else 0) ≤ 1 := by split <;> omega
    have hde : lm xs (o + i) + 4294967296 * (if lm xs (o + i) < (c + q * lm b i) % 4294967296 + bo then 1 else 0) - ((c + q * lm b i) % 4294967296 + bo) + ((c + q * lm b i) % 4294967296 + bo) = lm xs (o + i) + 4294967296 * (if lm xs (o + i) < (c + q * lm b i) % 4294967296 + bo then 1 else 0) := by split <;> omega
    generalize hD : lm xs (o + i) + 4294967296 * (if lm xs (o + i) < (c + q * lm b i) % 4294967296 + bo then 1 else 0) - ((c + q * lm b i) % 4294967296 + bo) = D at *
    generalize hB : (if lm xs (o + i) < (c + q * lm b i) % 4294967296 + bo then 1 else 0) = B2 at *
    refine ⟨((o, b.length + 1), ((((c + q * lm b i) / 4294967296 : Nat)) : Int), (B2 : Int), ((i + 1 : Nat) : Int), xs.set (o + i) (D : Int)), ?_,
      ⟨rfl, (c + q * lm b i) / 4294967296, B2, i + 1, rfl, rfl, rfl, m2, hbw, by omega, limbs_setN hl _ hdl, by simpa using hn, ?_, ?_, ?_⟩, by simp; omega⟩
    · unfold nat_takes_S_R0
      have ew : wu64 (lm b i : Int) = lm b i := wu64n (by omega)
      simp only [dflt_u32, nth_lm hb, Int.toNat_natCast, nthN_lm hl, ew, m1, lo32, hi32, i1 i (by omega)]
      rw [T.run_ite_t (by simp; omega), T.run_idx _ (by omega) (by omega), T.run_idx _ (by omega) (by omega), T.run_e _ rfl (by omega), T.run_bind_of hs]
      simp only
      rw [T.run_idx _ (by omega) (by omega), T.run_e _ rfl (by omega), T.run_leI _ (by omega), T.run_true, T.run_eqN _ (by simp), T.run_ret]
    · simp only
      rw [List.take_set_of_le (by omega), ht]
    · simp only
      rw [drop_set', set_drop_succ]
      have := congrArg (List.drop 1) hd
      rw [List.drop_drop, List.drop_drop, ] at this
      simpa [Nat.add_assoc, Nat.add_comm] using this
    · simp only
      rw [drop_set', nv_take_lm, Nat.pow_succ]
      have hset := nv_set (a := xs.drop o) (i := i) (D : Int) (by simp; omega)
      rw [Int.toNat_natCast, lm_drop'] at hset
      exact take_alg (lo := (c + q * lm b i) % 4294967296) hv hset (by generalize c + q * lm b i = z; omega) hde
  · right
    have : i = b.length := by omega
    subst this
    refine ⟨((o, b.length + 1), (c : Int), (bo : Int), xs), ?_, rfl, c, bo, rfl, rfl, hc, hbo, hl, hn, ht, hd, by simpa [List.take_length] using hv⟩
    unfold nat_takes_S_R0
    simp
theorem back_alg {X X' P N m v w d hi Y : Nat} (h : X + m * P = Y + N) (hs : X' + P * w = X + P * d) (hd : d + 4294967296 * hi = w + v + m) : X' + hi * (P * 4294967296) = Y + (N + P * v) := by
  have e1 : P * (d + 4294967296 * hi) = P * (w + v + m) := by rw [hd]
  have e2 : X' + hi * (P * 4294967296) + (P * w + P * m) = Y + (N + P * v) + (P * w + P * m) := by
    have e3 : X' + hi * (P * 4294967296) + (P * w + P * m) = (X' + P * w) + P * (4294967296 * hi) + P * m := by grind
    rw [e3, hs]
    have e4 : X + P * d + P * (4294967296 * hi) + P * m = (X + m * P) + P * (d + 4294967296 * hi) := by grind
    rw [e4, e1, h]; grind
  omega
theorem takes2 (b : List Int) (hb : limbs b) (lb : b.length ≤ 1000000000) (u : List Int) (hu : limbs u) (o : Nat) (ho : o + b.length < u.length) :
    ∃ r : (Nat × Nat) × Int × List Int, (nat_takes_S_L1 b b (b.length : Int) ((o, b.length + 1), 0, 0, u)).run = some r ∧ r.1 = (o, b.length + 1) ∧ ∃ m : Nat, r.2.1 = (m : Int) ∧ m ≤ 1 ∧ limbs r.2.2 ∧
      r.2.2.length = u.length ∧ r.2.2.take o = u.take o ∧ (r.2.2.drop o).drop b.length = (u.drop o).drop b.length ∧ nv (r.2.2.drop o) + m * 4294967296 ^ b.length = nv (u.drop o) + nv b := by
  refine T.loop_post (fun s : (Nat × Nat) × Int × Int × List Int => s.1 = (o, b.length + 1) ∧ ∃ m i : Nat, s.2.1 = (m : Int) ∧ s.2.2.1 = (i : Int) ∧ m ≤ 1 ∧ i ≤ b.length ∧ limbs s.2.2.2 ∧
      s.2.2.2.length = u.length ∧ s.2.2.2.take o = u.take o ∧ (s.2.2.2.drop o).drop i = (u.drop o).drop i ∧ nv (s.2.2.2.drop o) + m * 4294967296 ^ i = nv (u.drop o) + nv (b.take i))
    (fun s => b.length - s.2.2.1.toNat) _ ?_ ⟨rfl, 0, 0, rfl, rfl, by omega, by omega, hu, rfl, rfl, rfl, by simp⟩
  rintro ⟨_, _, _, xs⟩ ⟨rfl, m, i, rfl, rfl, hm, hi, hl, hn, ht, hd, hv⟩
  simp only at hl hn ht hd hv ⊢
  by_cases hlt : i < b.length
  · left
    have hw := lm_lt hb i
    have hx := lm_lt hl (o + i)
    have hs := add32_run hx hw hm
    refine ⟨((o, b.length + 1), (((lm xs (o + i) + lm b i + m) / 4294967296 : Nat) : Int), ((i + 1 : Nat) : Int), xs.set (o + i) (((lm xs (o + i) + lm b i + m) % 4294967296 : Nat) : Int)), ?_,
      ⟨rfl, _, i + 1, rfl, rfl, by omega, by omega, limbs_setN hl _ (by omega), by simpa using hn, ?_, ?_, ?_⟩, by simp; omega⟩
    · unfold nat_takes_S_R1
      simp only [dflt_u32, nth_lm hb, Int.toNat_natCast, nthN_lm hl, i1 i (by omega)]
      rw [T.run_ite_t (by simp; omega), T.run_idx _ (by omega) (by omega), T.run_idx _ (by omega) (by omega), T.run_e _ rfl (by omega), T.run_bind_of hs]
      simp only
      rw [T.run_idx _ (by omega) (by omega), T.run_e _ rfl (by omega), T.run_true, T.run_eqN _ (by simp), T.run_ret]
    · simp only
      rw [List.take_set_of_le (by omega), ht]
    · simp only
      rw [drop_set', set_drop_succ]
      have := congrArg (List.drop 1) hd
      rw [List.drop_drop, List.drop_drop, ] at this
      simpa [Nat.add_assoc, Nat.add_comm] using this
    · simp only
      rw [drop_set', nv_take_lm, Nat.pow_succ]
      have hset := nv_set (a := xs.drop o) (i := i) (((lm xs (o + i) + lm b i + m) % 4294967296 : Nat) : Int) (by simp; omega)
      rw [Int.toNat_natCast, lm_drop'] at hset
      exact back_alg hv hset (by omega)
  · right
    have : i = b.length := by omega
    subst this
    refine ⟨((o, b.length + 1), (m : Int), xs), ?_, rfl, m, rfl, hm, hl, hn, ht, hd, by simpa [List.take_length] using hv⟩
    unfold nat_takes_S_R1
    simp
end Go.AM.Lf
