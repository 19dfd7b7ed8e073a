/-
  Plain laws of the lifted program: P3t.
-/
import Derived.Test.YtgfadkdgifpddaaQP3s
set_option linter.unusedVariables false
namespace Go.AM.Lf
open PL
/-- A rational, normal. -/
def ratN (neg : Bool) (n d : Nat) : Rat := if n = 0 ∨ d = 0 then (false, [], [1], ()) else (neg, ofN (n / Nat.gcd n d), ofN (d / Nat.gcd n d), ())
def ratOk (k : Nat) (a : Rat) : Prop := limbs a.2.1 ∧ limbs a.2.2.1 ∧ a.2.1.length ≤ k ∧ a.2.2.1.length ≤ k
theorem ofN_one : ofN 1 = [1] := by rw [ofN_pos (by omega), show 1 / 4294967296 = 0 from rfl, ofN_zero]; rfl
theorem ofN_len_mono {m n : Nat} (h : m ≤ n) : (ofN m).length ≤ (ofN n).length := ofN_len_le.2 (Nat.lt_of_le_of_lt h (ofN_len_le.1 (Nat.le_refl _)))
theorem ratN_ok (neg : Bool) (n d k : Nat) (hk : 1 ≤ k) (hn : (ofN n).length ≤ k) (hd : (ofN d).length ≤ k) : ratOk k (ratN neg n d) := by
  unfold ratN
  split
  · exact ⟨limbs_nil, one_limb, by simp, by simpa using hk⟩
  · exact ⟨limbs_ofN _, limbs_ofN _, Nat.le_trans (ofN_len_mono (Nat.div_le_self _ _)) hn, Nat.le_trans (ofN_len_mono (Nat.div_le_self _ _)) hd⟩
theorem rat_Of_run (neg : Bool) (n d : List Int) (hn : limbs n) (hd : limbs d) (ln : n.length ≤ 100000000) (ld : d.length ≤ 100000000) : (rat_Of neg n d).run = some (ratN neg (nv n) (nv d)) := by
  have qn := ofN_nv_len hn
  have qd := ofN_nv_len hd
  unfold rat_Of
  rw [T.run_bind_of (Trim_run n hn (by omega)), T.run_bind_of (Trim_run d hd (by omega))]
  generalize nv n = N at *
  generalize nv d = D at *
  unfold ratN
  by_cases h : N = 0 ∨ D = 0
  · rw [if_pos h]
    have e : (((ofN N).length : Int) == 0 || ((ofN D).length : Int) == 0) = true := by
      rcases h with rfl | rfl <;> simp [ofN_zero]
    have h1 : (nat_Of 1).run = some (ofN 1) := nat_Of_run 1 (by omega)
    rw [T.run_ite_t e, T.run_bind_of h1, T.run_ret, ofN_one]
  · rw [if_neg h]
    have hN : N ≠ 0 := fun z => h (.inl z)
    have hD : D ≠ 0 := fun z => h (.inr z)
    have n1 : (ofN N).length ≠ 0 := fun h => hN (ofN_eq_nil.1 (List.eq_nil_of_length_eq_zero h))
    have n2 : (ofN D).length ≠ 0 := fun h => hD (ofN_eq_nil.1 (List.eq_nil_of_length_eq_zero h))
    have e : (((ofN N).length : Int) == 0 || ((ofN D).length : Int) == 0) = false := by rw [Bool.or_eq_false_iff]; exact ⟨by simpa using n1, by simpa using n2⟩
    have hg := nat_Gcd_run (ofN N) (ofN D) (limbs_ofN N) (limbs_ofN D) (by omega) (by omega)
    rw [nv_ofN, nv_ofN] at hg
    have hgp : Nat.gcd N D ≠ 0 := fun z => hN (Nat.gcd_eq_zero_iff.1 z).1
    have hgl : (ofN (Nat.gcd N D)).length ≤ 100000000 := Nat.le_trans (ofN_len_mono (Nat.gcd_le_left D (Nat.pos_of_ne_zero hN))) (by omega)
    have h1 := nat_DivMod_run (ofN N) (ofN (Nat.gcd N D)) (limbs_ofN N) (limbs_ofN _) (by omega) hgl
    have h2 := nat_DivMod_run (ofN D) (ofN (Nat.gcd N D)) (limbs_ofN D) (limbs_ofN _) (by omega) hgl
    rw [nv_ofN, nv_ofN, if_neg hgp] at h1 h2
    rw [T.run_ite_f e, T.run_bind_of hg, T.run_bind_of h1]
    simp only
    rw [T.run_bind_of h2, T.run_ret]
theorem rat_Norm_run (a : Rat) (h : ratOk 100000000 a) : (rat_Norm a).run = some (ratN a.1 (nv a.2.1) (nv a.2.2.1)) := by
  unfold rat_Norm
  rw [T.run_bind_of (rat_Of_run _ _ _ h.1 h.2.1 h.2.2.1 h.2.2.2), T.run_ret]
theorem ref1_Gcd_run (a b : List Int) (ha : limbs a) (hb : limbs b) (la : a.length ≤ 100000000) (lb : b.length ≤ 100000000) : (ref1_Gcd a b).run = some (ofN (Nat.gcd (nv a) (nv b))) := by
  have qa := ofN_nv_len ha
  have qb := ofN_nv_len hb
  unfold ref1_Gcd
  rw [T.run_bind_of (rTrim_run a ha (by omega)), T.run_bind_of (rTrim_run b hb (by omega))]
  generalize nv a = A at *
  generalize nv b = B at *
  have key : (ref1_Gcd_L0 (ofN A, ofN B)).run = some (ofN (Nat.gcd A B)) := by
    have := T.loop_run (r := ref1_Gcd_R0) (fun s : List Int × List Int => ∃ A B : Nat, s = (ofN A, ofN B) ∧ (ofN A).length ≤ 100000000 ∧ (ofN B).length ≤ 100000000)
      (fun s => nv s.2) (fun s => ofN (Nat.gcd (nv s.1) (nv s.2))) ?_ (s := (ofN A, ofN B)) ⟨A, B, rfl, by omega, by omega⟩
    · rw [nv_ofN, nv_ofN] at this; exact this
    · rintro _ ⟨A, B, rfl, hA, hB'⟩
      simp only [nv_ofN]
      by_cases hB : B = 0
      · right
        subst hB
        unfold ref1_Gcd_R0
        rw [ofN_zero]; simp
      · left
        have hd := ref1_DivMod_run (ofN A) (ofN B) (limbs_ofN A) (limbs_ofN B) hA hB'
        rw [nv_ofN, nv_ofN, if_neg hB] at hd
        have hm := Nat.mod_lt A (Nat.pos_of_ne_zero hB)
        have hne : (ofN B).length ≠ 0 := fun h => hB (ofN_eq_nil.1 (List.eq_nil_of_length_eq_zero h))
        refine ⟨(ofN B, ofN (A % B)), ?_, ⟨B, A % B, rfl, hB', ?_⟩, by simpa using hm, ?_⟩
        · unfold ref1_Gcd_R0
          rw [T.run_ite_t (by simp; omega), T.run_bind_of hd, T.run_ret]
        · have := ofN_len_mono (Nat.le_of_lt hm)
          omega
        · simp only [nv_ofN]
          rw [Nat.gcd_comm, ← Nat.gcd_rec, Nat.gcd_comm]
  rw [T.run_bind_of key, T.run_ret]
theorem ref2_Norm_run (a : Rat) (h : ratOk 100000000 a) : (ref2_Norm a).run = some (ratN a.1 (nv a.2.1) (nv a.2.2.1)) := by
  obtain ⟨neg, n, d, u⟩ := a
  obtain ⟨hn, hd, ln, ld⟩ := h
  simp only at hn hd ln ld
  have qn := ofN_nv_len hn
  have qd := ofN_nv_len hd
  unfold ref2_Norm
  simp only
  rw [T.run_bind_of (rTrim_run n hn (by omega)), T.run_bind_of (rTrim_run d hd (by omega))]
  generalize nv n = N at *
  generalize nv d = D at *
  unfold ratN
  by_cases h : N = 0 ∨ D = 0
  · rw [if_pos h]
    have e : (((ofN D).length : Int) == 0 || ((ofN N).length : Int) == 0) = true := by
      rcases h with rfl | rfl <;> simp [ofN_zero]
    rw [T.run_ite_t e, T.run_ret]
  · rw [if_neg h]
    have hN : N ≠ 0 := fun z => h (.inl z)
    have hD : D ≠ 0 := fun z => h (.inr z)
    have n1 : (ofN N).length ≠ 0 := fun h => hN (ofN_eq_nil.1 (List.eq_nil_of_length_eq_zero h))
    have n2 : (ofN D).length ≠ 0 := fun h => hD (ofN_eq_nil.1 (List.eq_nil_of_length_eq_zero h))
    have e : (((ofN D).length : Int) == 0 || ((ofN N).length : Int) == 0) = false := by rw [Bool.or_eq_false_iff]; exact ⟨by simpa using n2, by simpa using n1⟩
    have hg := ref1_Gcd_run (ofN N) (ofN D) (limbs_ofN N) (limbs_ofN D) (by omega) (by omega)
    rw [nv_ofN, nv_ofN] at hg
    have hgp : Nat.gcd N D ≠ 0 := fun z => hN (Nat.gcd_eq_zero_iff.1 z).1
    have hgl : (ofN (Nat.gcd N D)).length ≤ 100000000 := Nat.le_trans (ofN_len_mono (Nat.gcd_le_left D (Nat.pos_of_ne_zero hN))) (by omega)
    have h1 := ref1_DivMod_run (ofN N) (ofN (Nat.gcd N D)) (limbs_ofN N) (limbs_ofN _) (by omega) hgl
    have h2 := ref1_DivMod_run (ofN D) (ofN (Nat.gcd N D)) (limbs_ofN D) (limbs_ofN _) (by omega) hgl
    rw [nv_ofN, nv_ofN, if_neg hgp] at h1 h2
    rw [T.run_ite_f e, T.run_bind_of hg, T.run_bind_of h1]
    simp only
    rw [T.run_bind_of h2, T.run_ret]
theorem ref2_Of_run (neg : Bool) (n d : List Int) (hn : limbs n) (hd : limbs d) (ln : n.length ≤ 100000000) (ld : d.length ≤ 100000000) : (ref2_Of neg n d).run = some (ratN neg (nv n) (nv d)) := by
  unfold ref2_Of
  rw [T.run_bind_of (ref2_Norm_run (neg, n, d, ()) ⟨hn, hd, ln, ld⟩), T.run_ret]
/-! ### dec -/
theorem ten_len (k : Nat) : (ofN (10 ^ k)).length ≤ k + 1 := by
  refine ofN_len_le.2 ?_
  have h1 : (10 : Nat) ^ k ≤ 4294967296 ^ k := Nat.pow_le_pow_left (by omega) k
  have h2 : (4294967296 : Nat) ^ k < 4294967296 ^ (k + 1) := Nat.pow_lt_pow_right (by omega) (by omega)
  omega
theorem mul_len (m n : Nat) : (ofN (m * n)).length ≤ (ofN m).length + (ofN n).length := by
  refine ofN_len_le.2 ?_
  rw [Nat.pow_add]
  exact Nat.mul_lt_mul'' (ofN_len_le.1 (Nat.le_refl _)) (ofN_len_le.1 (Nat.le_refl _))
theorem dec_ten_run (k : Nat) (hk : k ≤ 10000) : (dec_ten (k : Int)).run = some (ofN (10 ^ k)) := by
  have h1 : (nat_Of 1).run = some (ofN 1) := nat_Of_run 1 (by omega)
  have h10 : (nat_Of 10).run = some (ofN 10) := nat_Of_run 10 (by omega)
  have loop := T.loop_run (r := dec_ten_R0 (k : Int)) (fun s : List Int × Int => ∃ i : Nat, s = (ofN (10 ^ i), (i : Int)) ∧ i ≤ k) (fun s => k - s.2.toNat) (fun _ => ofN (10 ^ k)) ?_ (s := (ofN 1, 0)) ⟨0, rfl, by omega⟩
  · have loop' : (dec_ten_L0 (k : Int) (ofN 1, 0)).run = some (ofN (10 ^ k)) := loop
    unfold dec_ten
    rw [T.run_bind_of h1, T.run_bind_of loop', T.run_ret]
  · rintro _ ⟨i, rfl, hi⟩
    simp only
    by_cases hlt : i < k
    · left
      have hl := ten_len i
      have hm := nat_Mul_run (ofN (10 ^ i)) (ofN 10) (limbs_ofN _) (limbs_ofN _) (by omega) (by have := ten_len 1; simp at this; omega)
      rw [nv_ofN, nv_ofN, ← Nat.pow_succ] at hm
      refine ⟨(ofN (10 ^ (i + 1)), ((i + 1 : Nat) : Int)), ?_, ⟨i + 1, rfl, by omega⟩, by simp; omega, trivial⟩
      unfold dec_ten_R0
      rw [T.run_ite_t (by simp; omega), T.run_bind_of h10, T.run_bind_of hm, T.run_ret, i1 i (by omega)]
    · right
      have : i = k := by omega
      subst this
      unfold dec_ten_R0
      simp
theorem ref3_ten_run (k : Nat) (hk : k ≤ 10000) : (ref3_ten (k : Int)).run = some (ofN (10 ^ k)) := by
  have loop := T.loop_run (r := ref3_ten_R0 (k : Int)) (fun s : List Int × Int => ∃ i : Nat, s = (ofN (10 ^ i), (i : Int)) ∧ i ≤ k) (fun s => k - s.2.toNat) (fun _ => ofN (10 ^ k)) ?_ (s := (ofN 1, 0)) ⟨0, rfl, by omega⟩
  · have loop' : (ref3_ten_L0 (k : Int) ([1], 0)).run = some (ofN (10 ^ k)) := by rw [← ofN_one]; exact loop
    unfold ref3_ten
    rw [T.run_bind_of loop', T.run_ret]
  · rintro _ ⟨i, rfl, hi⟩
    simp only
    by_cases hlt : i < k
    · left
      have hl := ten_len i
      have hm := ref1_Mul_run (ofN (10 ^ i)) [10] (limbs_ofN _) (by intro x hx; simp at hx; omega) (by omega) (by simp)
      rw [nv_ofN, show nv [10] = 10 from rfl, ← Nat.pow_succ] at hm
      refine ⟨(ofN (10 ^ (i + 1)), ((i + 1 : Nat) : Int)), ?_, ⟨i + 1, rfl, by omega⟩, by simp; omega, trivial⟩
      unfold ref3_ten_R0
      rw [T.run_ite_t (by simp; omega), T.run_bind_of hm, T.run_ret, i1 i (by omega)]
    · right
      have : i = k := by omega
      subst this
      unfold ref3_ten_R0
      simp
/-- Half to even. -/
def rnd (n d : Nat) : Nat := if d < 2 * (n % d) ∨ (2 * (n % d) = d ∧ n / d % 2 = 1) then n / d + 1 else n / d
theorem lowbit (q : Nat) (hq : (ofN q).length ≤ 100000000) : (decide ((0 : Int) < ((ofN q).length : Int)) && (andI .u32 (nth (ofN q) 0 0) 1 == 1)) = decide (q % 2 = 1) := by
  by_cases h : q = 0
  · subst h; rw [ofN_zero]; simp
  · have hne : (ofN q).length ≠ 0 := fun z => h (ofN_eq_nil.1 (List.eq_nil_of_length_eq_zero z))
    rw [ofN_pos h]
    have e : nth (((q % 4294967296 : Nat) : Int) :: ofN (q / 4294967296)) 0 0 = ((q % 4294967296 : Nat) : Int) := rfl
    have e2 := andI_u32 (x := q % 4294967296) (y := 1) (by omega) (by omega)
    rw [Nat.and_one_is_mod, show q % 4294967296 % 2 = q % 2 by omega] at e2
    rw [e, show andI .u32 ((q % 4294967296 : Nat) : Int) 1 = ((q % 2 : Nat) : Int) from e2]
    rw [show decide ((0 : Int) < (((((q % 4294967296 : Nat) : Int) :: ofN (q / 4294967296)).length : Nat) : Int)) = true from decide_eq_true (by simp), Bool.true_and]
    by_cases c : q % 2 = 1
    · rw [c]; rfl
    · rw [show q % 2 = 0 by omega]; rfl
theorem rnd_test (r d q : Nat) : ((decide ((0 : Int) < cmpI (2 * r) d)) || (cmpI (2 * r) d == 0 && decide (q % 2 = 1))) = decide (d < 2 * r ∨ (2 * r = d ∧ q % 2 = 1)) := by
  unfold cmpI
  rcases Nat.lt_trichotomy (2 * r) d with c | c | c
  · rw [if_pos c]
    have h1 : ¬ d < 2 * r := by omega
    have h2 : ¬ 2 * r = d := by omega
    simp [h1, h2]
  · rw [if_neg (by omega), if_neg (by omega)]
    have h1 : ¬ d < 2 * r := by omega
    simp [h1, c]
  · rw [if_neg (by omega), if_pos c]
    simp [c]
end Go.AM.Lf
