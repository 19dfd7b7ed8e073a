/-
  Plain laws of the lifted program: P3h.
-/
import Derived.Test.YtgfadkdgifpddaaQP3g
set_option linter.unusedVariables false
namespace Go.AM.Lf
open PL
theorem or_hi {a b s : Nat} (hs : s ≤ 32) (ha : a < 2 ^ (32 - s)) : a ||| b * 2 ^ (32 - s) = a + b * 2 ^ (32 - s) := by rw [Nat.or_comm, or_add b a (32 - s) ha, Nat.add_comm]
theorem pow_split (s : Nat) (h : s ≤ 32) : (4294967296 : Nat) = 2 ^ (32 - s) * 2 ^ s := by rw [← Nat.pow_add, show 32 - s + s = 32 by omega]
theorem shr_w {v s : Nat} (hs : s ≤ 32) : v * 4294967296 / 2 ^ s = v * 2 ^ (32 - s) := by
  rw [pow_split s hs, ← Nat.mul_assoc, Nat.mul_div_cancel _ (Nat.pow_pos (by omega))]
theorem shr_hi {v s : Nat} (hs : s ≤ 32) : v * 2 ^ (32 - s) / 4294967296 = v / 2 ^ s := by
  rw [pow_split s hs, Nat.mul_comm v, Nat.mul_div_mul_left _ _ (Nat.pow_pos (by omega))]
theorem shr_lo {v s : Nat} (hs : s ≤ 32) : v * 2 ^ (32 - s) % 4294967296 = (v % 2 ^ s) * 2 ^ (32 - s) := by
  rw [pow_split s hs, Nat.mul_comm (2 ^ (32 - s)), Nat.mul_mod_mul_right]
theorem shr_alg {V v P s C : Nat} (hs : s ≤ 32) (hC : C = V / 2 ^ s) : C + P * ((v % 2 ^ s) * 2 ^ (32 - s)) + P * 4294967296 * (v / 2 ^ s) = (V + P * 4294967296 * v) / 2 ^ s := by
  have hp : 0 < 2 ^ s := Nat.pow_pos (by omega)
  have e1 : V + P * 4294967296 * v = V + (P * 2 ^ (32 - s) * v) * 2 ^ s := by
    have : P * 4294967296 * v = P * (2 ^ (32 - s) * 2 ^ s) * v := by rw [← pow_split s hs]
    rw [this]; grind
  rw [e1, Nat.add_mul_div_right _ _ hp, hC]
  have e2 : v = v % 2 ^ s + 2 ^ s * (v / 2 ^ s) := by have := Nat.div_add_mod v (2 ^ s); omega
  have e3 : P * 4294967296 * (v / 2 ^ s) = P * (2 ^ (32 - s) * 2 ^ s) * (v / 2 ^ s) := by rw [← pow_split s hs]
  rw [e3]
  have e4 : P * 2 ^ (32 - s) * v = P * 2 ^ (32 - s) * (v % 2 ^ s + 2 ^ s * (v / 2 ^ s)) := by rw [← e2]
  rw [e4]
  generalize v % 2 ^ s = lo
  generalize v / 2 ^ s = hi
  grind
theorem shr_loop (x : List Int) (hx : limbs x) (lx : x.length ≤ 4000000000) (s : Nat) (hs : s < 32) :
    ∃ r, (nat_Shift_L0 (s : Int) x (x.length : Int) (0, List.replicate x.length 0)).run = some r ∧ limbs r ∧ r.length = x.length ∧ nv r = nv x / 2 ^ s := by
  refine T.loop_post (fun z : Int × List Int => ∃ i : Nat, z.1 = (i : Int) ∧ i ≤ x.length ∧ limbs z.2 ∧ z.2.length = x.length ∧ (∀ j, i ≤ j → lm z.2 j = 0) ∧ (∀ j, i = j + 1 → lm z.2 j = lm x j / 2 ^ s) ∧ nv (z.2.take i) = nv (x.take i) / 2 ^ s)
    (fun z => x.length - z.1.toNat) _ ?_ ⟨0, rfl, by omega, limbs_replicate _, by simp, fun j _ => ?_, fun j h => by omega, by simp⟩
  · rintro ⟨_, xs⟩ ⟨i, rfl, hi, hl, hn, hz, hp, hv⟩
    simp only at hl hn hz hp hv ⊢
    by_cases hlt : i < x.length
    · left
      have hxl := lm_lt hx i
      have hb : wu64 (lm x i : Int) = lm x i := wu64n (by omega)
      have h32 : (32 : Int) = ((32 : Nat) : Int) := rfl
      have w1 : shrI .u64 (shlI .u64 (lm x i : Int) 32) (s : Int) = ((lm x i * 2 ^ (32 - s) : Nat) : Int) := by
        rw [h32, shlI64 hxl (by omega), shrI64 (by omega), ← shr_w (by omega)]
      have hq : lm x i / 2 ^ s < 4294967296 := Nat.lt_of_le_of_lt (Nat.div_le_self _ _) hxl
      have w2 : wu32 (shrI .u64 ((lm x i * 2 ^ (32 - s) : Nat) : Int) 32) = ((lm x i / 2 ^ s : Nat) : Int) := by rw [hi32, shr_hi (by omega), wu32n hq]
      have w3 : orI .u32 (nthN xs i 0) ((lm x i / 2 ^ s : Nat) : Int) = ((lm x i / 2 ^ s : Nat) : Int) := by
        rw [nthN_lm hl, hz i (Nat.le_refl _), orI_u32 (by omega) hq, Nat.zero_or]
      cases i with
      | zero =>
        refine ⟨(1, xs.set 0 ((lm x 0 / 2 ^ s : Nat) : Int)), ?_, ⟨1, rfl, by omega, limbs_setN hl _ hq, by simpa using hn, fun j h => ?_, fun j h => ?_, ?_⟩, by simp; omega⟩
        · have w3' := w3
          simp only [Int.natCast_zero] at *
          have hx0 : nth x 0 0 = (lm x 0 : Int) := nth_lm hx 0
          unfold nat_Shift_R0
          simp only [dflt_u32, hx0, Int.toNat_natCast, Nat.zero_add, hb, w1, w2, w3]
          have w3'' : orI .u32 (nthN xs (Int.toNat 0) 0) ((lm x 0 / 2 ^ s : Nat) : Int) = ((lm x 0 / 2 ^ s : Nat) : Int) := w3
          generalize lm x 0 / 2 ^ s = q at *
          simp only [w3'']
          simp (disch := omega) [hlt, hn]
        · rw [nth_set_ne _ _ _ _ (by omega)]; exact hz j (by omega)
        · have : j = 0 := by omega
          subst this
          rw [lm_set (by omega), if_pos rfl, Int.toNat_natCast]
        · simp only
          rw [nv_set_take _ (by omega), nv_take_lm]; simp only [Int.toNat_natCast, List.take_zero, nv_nil, Nat.pow_zero, Nat.one_mul, Nat.zero_add]
      | succ i =>
        have hpi := hp i rfl
        have hxl2 := lm_lt hx i
        have hq2 : lm xs i < 2 ^ (32 - s) := by
          rw [hpi, Nat.div_lt_iff_lt_mul (Nat.pow_pos (by omega)), ← pow_split s (by omega)]; exact hxl2
        have hq3 : lm x (i + 1) * 2 ^ (32 - s) % 4294967296 = (lm x (i + 1) % 2 ^ s) * 2 ^ (32 - s) := shr_lo (by omega)
        have hq4 : lm xs i + (lm x (i + 1) % 2 ^ s) * 2 ^ (32 - s) < 4294967296 := by
          have h1 : lm x (i + 1) % 2 ^ s + 1 ≤ 2 ^ s := Nat.mod_lt _ (Nat.pow_pos (by omega))
          have h2 := Nat.mul_le_mul_right (2 ^ (32 - s)) h1
          rw [Nat.mul_comm (2 ^ s), ← pow_split s (by omega), Nat.add_mul] at h2
          omega
        have hxi := lm_lt hl i
        have w4 : ∀ ys : List Int, limbs ys → lm ys i = lm xs i → orI .u32 (nthN ys i 0) (wu32 ((lm x (i + 1) * 2 ^ (32 - s) : Nat) : Int)) = ((lm xs i + (lm x (i + 1) % 2 ^ s) * 2 ^ (32 - s) : Nat) : Int) := by
          intro ys hys he
          rw [nthN_lm hys, he, lo32, orI_u32 hxi (Nat.mod_lt _ (by omega)), hq3, or_hi (by omega) hq2]
        have w5 := w4 _ (limbs_setN hl (i + 1) hq) (nth_set_ne _ _ _ _ (by omega))
        refine ⟨(((i + 1 + 1 : Nat) : Int), (xs.set (i + 1) ((lm x (i + 1) / 2 ^ s : Nat) : Int)).set i ((lm xs i + (lm x (i + 1) % 2 ^ s) * 2 ^ (32 - s) : Nat) : Int)), ?_,
          ⟨i + 1 + 1, rfl, by omega, limbs_setN (limbs_setN hl _ hq) _ hq4, by simpa using hn, fun j h => ?_, fun j h => ?_, ?_⟩, by simp; omega⟩
        · unfold nat_Shift_R0
          simp only [dflt_u32, nth_lm hx, Int.toNat_natCast, Nat.zero_add, hb, w1, w2, w3, i1 (i + 1) (by omega), im1 i (by omega), w5]
          rw [T.run_ite_t (by simp; omega)]
          have hpos : decide ((0 : Int) < ((i + 1 : Nat) : Int)) = true := by simp
          generalize hG : (xs.set (i + 1) ((lm x (i + 1) / 2 ^ s : Nat) : Int)).set i ((lm xs i + (lm x (i + 1) % 2 ^ s) * 2 ^ (32 - s) : Nat) : Int) = G
          have hGl : G.length = xs.length := by rw [← hG]; simp
          rw [T.run_idx _ (by omega) (by omega), T.run_leI _ (by omega), T.run_leI _ (by omega), T.run_idx _ (by omega) (by omega), T.run_e _ rfl (by omega), T.run_leI _ (by omega), T.run_idx _ (by omega) (by omega), T.run_e _ rfl (by omega), T.run_ite_t hpos,
            T.run_idx _ (by omega) (by omega), T.run_e _ (by simp) (by simp; omega), T.run_idx _ (by omega) (by omega), T.run_e _ (by simp) (by simp; omega), T.run_cur _ (by omega) rfl (by omega), T.run_eqN _ (by omega), T.run_ret]
        · rw [nth_set_ne _ _ _ _ (by omega), nth_set_ne _ _ _ _ (by omega)]; exact hz j (by omega)
        · have : j = i + 1 := by omega
          subst this
          rw [nth_set_ne _ _ _ _ (by omega), lm_set (by omega), if_pos rfl, Int.toNat_natCast]
        · simp only
          rw [nv_take_lm, nth_set_ne _ _ _ _ (by omega), lm_set (by omega), if_pos rfl, Int.toNat_natCast, nv_set_take _ (by simp; omega), take_set_lt _ _ _ _ (by omega), Int.toNat_natCast, nv_take_lm, Nat.pow_succ]
          have hv2 := hv
          rw [nv_take_lm] at hv2
          have e : nv (xs.take i) + 4294967296 ^ i * (lm xs i + lm x (i + 1) % 2 ^ s * 2 ^ (32 - s)) = (nv (xs.take i) + 4294967296 ^ i * lm xs i) + 4294967296 ^ i * (lm x (i + 1) % 2 ^ s * 2 ^ (32 - s)) := by rw [Nat.mul_add]; omega
          rw [e]
          exact shr_alg (by omega) hv2
    · right
      have : i = x.length := by omega
      subst this
      refine ⟨xs, ?_, hl, hn, ?_⟩
      · unfold nat_Shift_R0
        simp
      · rw [List.take_length, nv_take_all (by omega)] at hv; exact hv
  · show lm (List.replicate x.length 0) j = 0
    unfold lm nth
    simp [List.getD_eq_getElem?_getD, List.getElem?_replicate]
    split <;> simp
end Go.AM.Lf
