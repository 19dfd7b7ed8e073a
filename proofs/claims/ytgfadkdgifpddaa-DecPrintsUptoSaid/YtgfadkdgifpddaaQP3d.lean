/-
  Plain laws of the lifted program: P3d.
-/
import Derived.Test.YtgfadkdgifpddaaQP3c
set_option linter.unusedVariables false
namespace Go.AM.Lf
open PL
theorem i1 (i : Nat) (h : i ≤ 4000000000) : w64 ((i : Int) + 1) = ((i + 1 : Nat) : Int) := by rw [w64_in (by omega) (by omega)]; omega
theorem im1 (i : Nat) (h : i ≤ 4000000000) : w64 (((i + 1 : Nat) : Int) - 1) = (i : Int) := by rw [w64_in (by omega) (by omega)]; omega
theorem len_app (xs : List Int) (x : Int) : (xs ++ [x]).length = xs.length + 1 := by simp
theorem limbs_snoc {xs : List Int} (h : limbs xs) {x : Int} (h0 : 0 ≤ x) (h1 : x < 4294967296) : limbs (xs ++ [x]) := limbs_append.2 ⟨h, fun y hy => by simp at hy; subst hy; exact ⟨h0, h1⟩⟩
theorem nv_snoc (xs : List Int) (x : Int) : nv (xs ++ [x]) = nv xs + 4294967296 ^ xs.length * x.toNat := by rw [nv_append]; simp
theorem ref1_Add_run (a b : List Int) (ha : limbs a) (hb : limbs b) (la : a.length ≤ 1000000000) (lb : b.length ≤ 1000000000) : (ref1_Add a b).run = some (ofN (nv a + nv b)) := by
  have hm : ∃ m : Nat, m = max a.length b.length := ⟨_, rfl⟩
  obtain ⟨m, hm⟩ := hm
  have em : w64 (maxI (a.length : Int) (b.length : Int) + 1) = ((m + 1 : Nat) : Int) := by
    have : maxI (a.length : Int) (b.length : Int) = (m : Int) := by unfold maxI; split <;> omega
    rw [this, i1 m (by omega)]
  have tot : nv a + nv b < 4294967296 ^ (m + 1) := by
    have h1 := nv_lt ha
    have h2 := nv_lt hb
    have h3 : (4294967296 : Nat) ^ a.length ≤ 4294967296 ^ m := Nat.pow_le_pow_right (by omega) (by omega)
    have h4 : (4294967296 : Nat) ^ b.length ≤ 4294967296 ^ m := Nat.pow_le_pow_right (by omega) (by omega)
    rw [Nat.pow_succ]; omega
  have loop : ∃ r : List Int, (ref1_Add_L0 a b (0, 0, [])).run = some r ∧ limbs r ∧ r.length = m + 1 ∧ nv r = nv a + nv b := by
    refine T.loop_post (fun s : Int × Int × List Int => ∃ (c i : Nat), s.1 = (c : Int) ∧ s.2.1 = (i : Int) ∧ c ≤ 1 ∧ i ≤ m + 1 ∧ limbs s.2.2 ∧ s.2.2.length = i ∧ nv s.2.2 + c * 4294967296 ^ i = nv (a.take i) + nv (b.take i))
      (fun s => m + 1 - s.2.1.toNat) _ ?_ ⟨0, 0, rfl, rfl, by omega, by omega, limbs_nil, rfl, by simp⟩
    rintro ⟨_, _, xs⟩ ⟨c, i, rfl, rfl, hc, hi, hl, hn, hv⟩
    simp only at hl hn hv ⊢
    by_cases hlt : i < m + 1
    · left
      have hx := lm_lt ha i
      have hy := lm_lt hb i
      refine ⟨((((c + lm a i + lm b i) / 4294967296 : Nat) : Int), ((i + 1 : Nat) : Int), xs ++ [(((c + lm a i + lm b i) % 4294967296 : Nat) : Int)]), ?_, ⟨_, i + 1, rfl, rfl, by omega, by omega, limbs_snoc hl (by omega) (by omega), by simp; omega, ?_⟩, by simp; omega⟩
      · unfold ref1_Add_R0
        simp only [em, T.run_iteS]
        rw [if_pos (by simp; omega), T.run_bind_of (ref1_at_run a ha i), T.run_bind_of (ref1_at_run b hb i)]
        simp only [add_carry hc hx hy, lo32, hi32, i1 i (by omega)]
        simp (disch := omega) [hn]
      · simp only
        rw [nv_snoc, hn, nv_take_lm, nv_take_lm, Nat.pow_succ, Int.toNat_natCast]
        exact carry_step hv
    · right
      have hi2 : i = m + 1 := by omega
      subst hi2
      refine ⟨xs, ?_, hl, hn, ?_⟩
      · unfold ref1_Add_R0
        simp [em]
      · rw [nv_take_all (by omega), nv_take_all (by omega)] at hv
        have : c = 0 := by
          rcases Nat.eq_zero_or_pos c with h | h
          · exact h
          · have : c = 1 := by omega
            subst this; omega
        subst this; omega
  obtain ⟨xs, hr, hl, hn, hv⟩ := loop
  unfold ref1_Add
  simp (disch := omega) only [T.run_cur, T.run_true, T.run_bind_of hr]
  simp only [List.drop_zero, Nat.zero_add, List.take_length]
  rw [T.run_bind_of (rTrim_run xs hl (by omega)), hv, T.run_ret]


theorem borrow_step {P X Y c x y : Nat} {Z : Nat} (h : X + Y = Z + c * P) (hc : c ≤ 1) (hx : x < 4294967296) (hy : y < 4294967296) :
    X + P * ((x + 4294967296 * (if x < y + c then 1 else 0)) - (y + c)) + (Y + P * y) = Z + P * x + (if x < y + c then 1 else 0) * (P * 4294967296) := by
  have key : ∀ k : Nat, y + c ≤ x + 4294967296 * k → X + P * (x + 4294967296 * k - (y + c)) + (Y + P * y) = Z + P * x + k * (P * 4294967296) := by
    intro k hk
    obtain ⟨d, hd⟩ : ∃ d, d = x + 4294967296 * k - (y + c) := ⟨_, rfl⟩
    have hd2 : d + (y + c) = x + 4294967296 * k := by omega
    rw [← hd]
    have e2 : P * (d + (y + c)) = P * (x + 4294967296 * k) := by rw [hd2]
    simp only [Nat.mul_add] at e2
    have e3 : k * (P * 4294967296) = P * (4294967296 * k) := by rw [Nat.mul_comm k, Nat.mul_assoc]
    rw [Nat.mul_comm c P] at h
    omega
  split
  · exact key 1 (by omega)
  · exact key 0 (by omega)
theorem ref1_Sub_run (a b : List Int) (ha : limbs a) (hb : limbs b) (la : a.length ≤ 1000000000) (lb : b.length ≤ 1000000000) : (ref1_Sub a b).run = some (if nv a < nv b then ([], false) else (ofN (nv a - nv b), true)) := by
  unfold ref1_Sub
  rw [T.run_bind_of (ref1_Cmp_run a b ha hb la lb)]
  by_cases hlt0 : nv a < nv b
  · rw [if_pos hlt0]; simp [cmpI, hlt0]
  rw [if_neg hlt0, T.run_ite_f (by unfold cmpI; rw [if_neg hlt0]; split <;> simp)]
  have loop : ∃ r : List Int, (ref1_Sub_L0 a b (0, 0, [])).run = some r ∧ limbs r ∧ r.length = a.length ∧ nv r + nv b = nv a := by
    refine T.loop_post (fun s : Int × Int × List Int => ∃ (c i : Nat), s.1 = (c : Int) ∧ s.2.1 = (i : Int) ∧ c ≤ 1 ∧ i ≤ a.length ∧ limbs s.2.2 ∧ s.2.2.length = i ∧ nv s.2.2 + nv (b.take i) = nv (a.take i) + c * 4294967296 ^ i)
      (fun s => a.length - s.2.1.toNat) _ ?_ ⟨0, 0, rfl, rfl, by omega, by omega, limbs_nil, rfl, by simp⟩
    rintro ⟨_, _, xs⟩ ⟨c, i, rfl, rfl, hc, hi, hl, hn, hv⟩
    simp only at hl hn hv ⊢
    by_cases hlt : i < a.length
    · left
      have hx := lm_lt ha i
      have hy := lm_lt hb i
      refine ⟨(((if lm a i < lm b i + c then 1 else 0 : Nat) : Int), ((i + 1 : Nat) : Int), xs ++ [(((lm a i + 4294967296 * (if lm a i < lm b i + c then 1 else 0)) - (lm b i + c) : Nat) : Int)]), ?_, ⟨_, i + 1, rfl, rfl, by split <;> omega, by omega, limbs_snoc hl (by omega) (by split <;> omega), by simp; omega, ?_⟩, by simp; omega⟩
      · unfold ref1_Sub_R0
        have e0 : wu64 ((lm b i : Int) + (c : Int)) = ((lm b i + c : Nat) : Int) := by rw [wu64_in (by omega) (by omega)]; omega
        simp only [T.run_iteS]
        rw [if_pos (by simpa using hlt), T.run_bind_of (ref1_at_run a ha i), T.run_bind_of (ref1_at_run b hb i)]
        simp only [e0, i1 i (by omega)]
        have e1 : (bif decide ((lm a i : Int) < ((lm b i + c : Nat) : Int)) then (1 : Int) else 0) = ((if lm a i < lm b i + c then 1 else 0 : Nat) : Int) := by
          by_cases q : lm a i < lm b i + c
          · rw [if_pos q, show decide ((lm a i : Int) < ((lm b i + c : Nat) : Int)) = true from decide_eq_true (by omega)]; rfl
          · rw [if_neg q, show decide ((lm a i : Int) < ((lm b i + c : Nat) : Int)) = false from decide_eq_false (by omega)]; rfl
        have e2 : wu32 (wu64 ((bif decide ((lm a i : Int) < ((lm b i + c : Nat) : Int)) then wu64 ((lm a i : Int) + 4294967296) else (lm a i : Int)) - ((lm b i + c : Nat) : Int))) = (((lm a i + 4294967296 * (if lm a i < lm b i + c then 1 else 0)) - (lm b i + c) : Nat) : Int) := by
          by_cases q : lm a i < lm b i + c
          · rw [if_pos q, show decide ((lm a i : Int) < ((lm b i + c : Nat) : Int)) = true from decide_eq_true (by omega), cond_true, wu64_in (x := (lm a i : Int) + 4294967296) (by omega) (by omega), wu64_in (by omega) (by omega), wu32_in (by omega) (by omega)]; omega
          · rw [if_neg q, show decide ((lm a i : Int) < ((lm b i + c : Nat) : Int)) = false from decide_eq_false (by omega), cond_false, wu64_in (by omega) (by omega), wu32_in (by omega) (by omega)]; omega
        simp only [e1, e2]
        simp (disch := omega) [hn]
      · simp only
        rw [nv_snoc, hn, nv_take_lm, nv_take_lm, Nat.pow_succ, Int.toNat_natCast]
        exact borrow_step hv hc hx hy
    · right
      have hi2 : i = a.length := by omega
      subst hi2
      refine ⟨xs, ?_, hl, hn, ?_⟩
      · unfold ref1_Sub_R0
        simp
      · rw [List.take_length] at hv
        have h1 := nv_split b (min a.length b.length) (by omega)
        have hlt2 := nv_lt ha
        have hb0 : nv (b.take a.length) = nv b := by
          by_cases q : b.length ≤ a.length
          · exact nv_take_all q
          · rw [show min a.length b.length = a.length by omega] at h1
            rcases Nat.eq_zero_or_pos (nv (b.drop a.length)) with z | z
            · rw [z] at h1; omega
            · have := Nat.mul_le_mul_left (4294967296 ^ a.length) z
              omega
        have hxs := nv_lt hl
        rw [hn] at hxs
        rw [hb0] at hv
        have : c = 0 := by
          rcases Nat.eq_zero_or_pos c with h | h
          · exact h
          · have : c = 1 := by omega
            subst this; omega
        subst this; omega
  obtain ⟨xs, hr, hl, hn, hv⟩ := loop
  simp (disch := omega) only [T.run_cur, T.run_true, T.run_bind_of hr]
  simp only [List.drop_zero, Nat.zero_add, List.take_length]
  rw [T.run_bind_of (rTrim_run xs hl (by omega)), T.run_ret, show nv xs = nv a - nv b by omega]
end Go.AM.Lf
