/-
  Plain laws of the lifted program: P3w.
-/
import Derived.Test.YtgfadkdgifpddaaQP3v
set_option linter.unusedVariables false
namespace Go.AM.Lf
open PL
/-- The first scale that tells a number. -/
def exactS (neg : Bool) (N D : Nat) : Nat → Nat → Str × Bool
  | _, 0 => ([], false)
  | k, f + 1 => if N * 10 ^ k % D = 0 then (sgS neg ++ ptd (pr (N * 10 ^ k / D)) k, true) else exactS neg N D (k + 1) f
theorem len_zero (n : Nat) : (((ofN n).length : Int) == 0) = decide (n = 0) := by
  by_cases c : n = 0
  · subst c; rw [ofN_zero]; rfl
  · have : (ofN n).length ≠ 0 := fun h => c (ofN_eq_nil.1 (List.eq_nil_of_length_eq_zero h))
    rw [decide_eq_false c]; simpa using this
theorem dec_Exact_run (a : Rat) (h : ratOk 1000 a) : (dec_Exact a).run = some (exactS (norm a).1 (nv (norm a).2.1) (nv (norm a).2.2.1) 0 61) := by
  have hno := norm_ok (by omega) h
  have hD := ratN_den a.1 (nv a.2.1) (nv a.2.2.1)
  have hrn := rat_norm a (ok_up h (by omega))
  unfold dec_Exact
  rw [T.run_bind_of hrn]
  change nv (norm a).2.2.1 ≠ 0 at hD
  clear hrn
  generalize norm a = v at *
  obtain ⟨hn, hd, ln, ld⟩ := hno
  have loop := T.loop_run (r := dec_Exact_R0) (fun s : Int × Rat => ∃ k : Nat, s = ((k : Int), v) ∧ k ≤ 61) (fun s => 61 - s.1.toNat)
    (fun s => if (exactS v.1 (nv v.2.1) (nv v.2.2.1) s.1.toNat (61 - s.1.toNat)).2 = true then .inr ((exactS v.1 (nv v.2.1) (nv v.2.2.1) s.1.toNat (61 - s.1.toNat)).1, true, v) else .inl v) ?_ (s := (0, v)) ⟨0, rfl, by omega⟩
  · have loop' : (dec_Exact_L0 (0, v)).run = _ := loop
    rw [T.run_bind_of loop']
    have hex : ∀ f k, (exactS v.1 (nv v.2.1) (nv v.2.2.1) k f).2 = false → (exactS v.1 (nv v.2.1) (nv v.2.2.1) k f).1 = [] := by
      intro f
      induction f with
      | zero => intro k _; rfl
      | succ f ih =>
        intro k hk
        unfold exactS at hk ⊢
        split at hk
        · cases hk
        · rename_i c; rw [if_neg c]; exact ih _ hk
    have h2 := hex 61 0
    simp only [Int.toNat_zero, Nat.sub_zero]
    generalize exactS v.1 (nv v.2.1) (nv v.2.2.1) 0 61 = z at *
    obtain ⟨z1, z2⟩ := z
    cases z2 with
    | true => simp
    | false => simp at h2 ⊢; exact h2
  · rintro _ ⟨k, rfl, hk⟩
    simp only [Int.toNat_natCast]
    by_cases hlt : k < 61
    · have hl10 := ten_len k
      have hm := nat_Mul_run v.2.1 (ofN (10 ^ k)) hn (limbs_ofN _) (by omega) (by omega)
      rw [nv_ofN] at hm
      have hml := Nat.le_trans (mul_len (nv v.2.1) (10 ^ k)) (Nat.add_le_add (ofN_nv_len hn) hl10)
      have hdm := nat_DivMod_run (ofN (nv v.2.1 * 10 ^ k)) v.2.2.1 (limbs_ofN _) hd (by omega) (by omega)
      rw [nv_ofN, if_neg hD] at hdm
      have hq := ofN_len_mono (Nat.div_le_self (nv v.2.1 * 10 ^ k) (nv v.2.2.1))
      have hpr := nat_Print_run (ofN (nv v.2.1 * 10 ^ k / nv v.2.2.1)) (limbs_ofN _) (by omega)
      rw [nv_ofN] at hpr
      have hpl := pr_len (nv v.2.1 * 10 ^ k / nv v.2.2.1) 2000 (by omega)
      have hfl := ptd_len (pr (nv v.2.1 * 10 ^ k / nv v.2.2.1)) k
      have hsl := sgS_len v.1
      have ef : 61 - k = (61 - (k + 1)) + 1 := by omega
      rw [ef, exactS]
      by_cases c : nv v.2.1 * 10 ^ k % nv v.2.2.1 = 0
      · right
        rw [if_pos c, if_pos rfl]
        unfold dec_Exact_R0
        rw [T.run_ite_t (decide_eq_true (by omega)), T.run_bind_of (dec_ten_run k (by omega)), T.run_bind_of hm, T.run_bind_of hdm]
        simp only
        rw [T.run_ite_t (by rw [len_zero]; exact decide_eq_true c), T.run_bind_of (sign_run v), T.run_bind_of hpr, T.run_bind_of (pointed_run _ k (by omega) (by omega)), T.run_leN _ (by omega), T.run_ret]; rfl
      · left
        rw [if_neg c]
        refine ⟨(((k + 1 : Nat) : Int), v), ?_, ⟨k + 1, rfl, by omega⟩, by simp only [Int.toNat_natCast]; omega, by first | trivial | simp only [Int.toNat_natCast]⟩
        unfold dec_Exact_R0
        rw [T.run_ite_t (decide_eq_true (by omega)), T.run_bind_of (dec_ten_run k (by omega)), T.run_bind_of hm, T.run_bind_of hdm]
        simp only
        rw [T.run_ite_f (by rw [len_zero]; exact decide_eq_false c), T.run_ret, i1 k (by omega)]
    · right
      have : k = 61 := by omega
      subst this
      unfold dec_Exact_R0
      rw [T.run_ite_f (decide_eq_false (by omega)), T.run_ret]; rfl
theorem ref3_Exact_run (a : Rat) (h : ratOk 1000 a) : (ref3_Exact a).run = some (exactS (norm a).1 (nv (norm a).2.1) (nv (norm a).2.2.1) 0 61) := by
  have hno := norm_ok (by omega) h
  have hD := ratN_den a.1 (nv a.2.1) (nv a.2.2.1)
  have hN := ratN_neg a.1 (nv a.2.1) (nv a.2.2.1)
  have hrn := ref2_norm a (ok_up h (by omega))
  unfold ref3_Exact
  rw [T.run_bind_of hrn]
  change nv (norm a).2.2.1 ≠ 0 at hD
  change (norm a).1 = true → nv (norm a).2.1 ≠ 0 at hN
  clear hrn
  generalize norm a = v at *
  obtain ⟨hn, hd, ln, ld⟩ := hno
  have loop := T.loop_run (r := ref3_Exact_R0) (fun s : List Int × Int × Rat => ∃ k : Nat, s = (ofN (10 ^ k), (k : Int), v) ∧ k ≤ 61) (fun s => 61 - s.2.1.toNat)
    (fun s => if (exactS v.1 (nv v.2.1) (nv v.2.2.1) s.2.1.toNat (61 - s.2.1.toNat)).2 = true then .inr ((exactS v.1 (nv v.2.1) (nv v.2.2.1) s.2.1.toNat (61 - s.2.1.toNat)).1, true, v) else .inl v) ?_ (s := ([1], 0, v)) ⟨0, by rw [Nat.pow_zero, ofN_one]; rfl, by omega⟩
  · have loop' : (ref3_Exact_L0 ([1], 0, v)).run = _ := loop
    rw [T.run_bind_of loop']
    have hex : ∀ f k, (exactS v.1 (nv v.2.1) (nv v.2.2.1) k f).2 = false → (exactS v.1 (nv v.2.1) (nv v.2.2.1) k f).1 = [] := by
      intro f
      induction f with
      | zero => intro k _; rfl
      | succ f ih =>
        intro k hk
        unfold exactS at hk ⊢
        split at hk
        · cases hk
        · rename_i c; rw [if_neg c]; exact ih _ hk
    have h2 := hex 61 0
    simp only [Int.toNat_zero, Nat.sub_zero]
    generalize exactS v.1 (nv v.2.1) (nv v.2.2.1) 0 61 = z at *
    obtain ⟨z1, z2⟩ := z
    cases z2 with
    | true => simp
    | false => simp at h2 ⊢; exact h2
  · rintro _ ⟨k, rfl, hk⟩
    simp only [Int.toNat_natCast]
    by_cases hlt : k < 61
    · have hl10 := ten_len k
      have hm := ref1_Mul_run v.2.1 (ofN (10 ^ k)) hn (limbs_ofN _) (by omega) (by omega)
      rw [nv_ofN] at hm
      have hml := Nat.le_trans (mul_len (nv v.2.1) (10 ^ k)) (Nat.add_le_add (ofN_nv_len hn) hl10)
      have hdm := ref1_DivMod_run (ofN (nv v.2.1 * 10 ^ k)) v.2.2.1 (limbs_ofN _) hd (by omega) (by omega)
      rw [nv_ofN, if_neg hD] at hdm
      have hq := ofN_len_mono (Nat.div_le_self (nv v.2.1 * 10 ^ k) (nv v.2.2.1))
      have hpt := point_run v.1 (nv v.2.1 * 10 ^ k / nv v.2.2.1) k (by omega) (by omega)
      have h10 := ref1_Mul_run (ofN (10 ^ k)) [10] (limbs_ofN _) (by intro x hx; simp at hx; omega) (by omega) (by simp)
      rw [nv_ofN, show nv [10] = 10 from rfl, ← Nat.pow_succ] at h10
      have ef : 61 - k = (61 - (k + 1)) + 1 := by omega
      rw [ef, exactS]
      by_cases c : nv v.2.1 * 10 ^ k % nv v.2.2.1 = 0
      · right
        have hsg : (v.1 && decide (nv v.2.1 * 10 ^ k / nv v.2.2.1 ≠ 0)) = v.1 := by
          cases hv : v.1 with
          | false => rfl
          | true =>
            have h1 := hN hv
            have h2 : nv v.2.1 * 10 ^ k ≠ 0 := Nat.mul_ne_zero h1 (Nat.pos_iff_ne_zero.1 (Nat.pow_pos (by omega)))
            have h3 : nv v.2.1 * 10 ^ k / nv v.2.2.1 ≠ 0 := by
              intro z
              have := Nat.div_add_mod (nv v.2.1 * 10 ^ k) (nv v.2.2.1)
              rw [z, c] at this
              exact h2 this.symm
            rw [decide_eq_true h3]; rfl
        rw [hsg] at hpt
        rw [if_pos c, if_pos rfl]
        unfold ref3_Exact_R0
        rw [T.run_ite_t (decide_eq_true (by omega)), T.run_bind_of hm, T.run_bind_of hdm]
        simp only
        rw [T.run_ite_t (by rw [len_zero]; exact decide_eq_true c), T.run_bind_of hpt, T.run_ret]
      · left
        rw [if_neg c]
        refine ⟨(ofN (10 ^ (k + 1)), ((k + 1 : Nat) : Int), v), ?_, ⟨k + 1, rfl, by omega⟩, by simp only [Int.toNat_natCast]; omega, by first | trivial | simp only [Int.toNat_natCast]⟩
        unfold ref3_Exact_R0
        rw [T.run_ite_t (decide_eq_true (by omega)), T.run_bind_of hm, T.run_bind_of hdm]
        simp only
        rw [T.run_ite_f (by rw [len_zero]; exact decide_eq_false c), T.run_bind_of h10, T.run_ret, i1 k (by omega)]
    · right
      have : k = 61 := by omega
      subst this
      unfold ref3_Exact_R0
      rw [T.run_ite_f (decide_eq_false (by omega)), T.run_ret]; rfl
/-- A number as a text. -/
def printS (a : Rat) : Str := if nv a.2.2.1 = 1 then sgS a.1 ++ pr (nv a.2.1) else sgS a.1 ++ pr (nv a.2.1) ++ ([47] ++ pr (nv a.2.2.1))
theorem dec_Print_run (a : Rat) (h : ratOk 1000 a) : (dec_Print a).run = some (printS (norm a)) := by
  have hno := norm_ok (by omega) h
  have hrn := rat_norm a (ok_up h (by omega))
  unfold dec_Print
  rw [T.run_bind_of hrn]
  clear hrn
  generalize norm a = v at *
  obtain ⟨hn, hd, ln, ld⟩ := hno
  have hpn := nat_Print_run v.2.1 hn (by omega)
  have hpd := nat_Print_run v.2.2.1 hd (by omega)
  have hl1 := pr_len (nv v.2.1) 1000 (Nat.le_trans (ofN_nv_len hn) ln)
  have hl2 := pr_len (nv v.2.2.1) 1000 (Nat.le_trans (ofN_nv_len hd) ld)
  have hsl := sgS_len v.1
  have h1 : (nat_Of 1).run = some (ofN 1) := nat_Of_run 1 (by omega)
  have hc := nat_Cmp_run v.2.2.1 (ofN 1) hd (limbs_ofN _) (by omega) (by rw [ofN_one]; simp)
  rw [nv_ofN] at hc
  rw [T.run_bind_of (sign_run v), T.run_bind_of hpn, T.run_leN _ (by omega), T.run_bind_of h1, T.run_bind_of hc]
  unfold printS cmpI
  by_cases c : nv v.2.2.1 = 1
  · rw [c, if_pos rfl, if_neg (by omega), if_neg (by omega), T.run_ite_f (by rfl), T.run_ret]; rfl
  · rw [if_neg c, T.run_ite_t (by
      split
      · rfl
      · split
        · rfl
        · omega), T.run_bind_of hpd]
    simp only [cat]
    rw [T.run_leN _ (by simp; omega), T.run_leN _ (by simp; omega), T.run_ret]
theorem ref3_Print_run (a : Rat) (h : ratOk 1000 a) : (ref3_Print a).run = some (printS (norm a)) := by
  have hno := norm_ok (by omega) h
  have hrn := ref2_norm a (ok_up h (by omega))
  have hcan : ∃ D, (norm a).2.2.1 = ofN D := by
    unfold norm ratN
    split
    · exact ⟨1, ofN_one.symm⟩
    · exact ⟨_, rfl⟩
  unfold ref3_Print
  rw [T.run_bind_of hrn]
  clear hrn
  generalize norm a = v at *
  obtain ⟨hn, hd, ln, ld⟩ := hno
  obtain ⟨D, hD⟩ := hcan
  have hpn := ref1_Print_run v.2.1 hn (by omega)
  have hpd := ref1_Print_run v.2.2.1 hd (by omega)
  have hl1 := pr_len (nv v.2.1) 1000 (Nat.le_trans (ofN_nv_len hn) ln)
  have hl2 := pr_len (nv v.2.2.1) 1000 (Nat.le_trans (ofN_nv_len hd) ld)
  have hsl := sgS_len v.1
  rw [T.run_bind_of (ref3_sign_run v.1), T.run_bind_of hpn, T.run_leN _ (by omega)]
  rw [T.run_obl (fun hz => ⟨by omega, by simp at hz; omega⟩)]
  have htest : (((v.2.2.1.length : Int) != 1) || (nth v.2.2.1 0 (dflt (.int .u32)) != 1)) = !decide (nv v.2.2.1 = 1) := by
    rw [hD, nv_ofN]
    by_cases c : D = 1
    · subst c; rw [ofN_one]; rfl
    · rw [decide_eq_false c]
      by_cases z : D = 0
      · subst z; rw [ofN_zero]; rfl
      · rw [ofN_pos z]
        by_cases y : D / 4294967296 = 0
        · rw [y, ofN_zero]
          have hne : ¬ (((D % 4294967296 : Nat) : Int) = 1) := by omega
          have e9 : nth [((D % 4294967296 : Nat) : Int)] 0 (dflt (.int .u32)) = ((D % 4294967296 : Nat) : Int) := rfl
          rw [e9]
          generalize ((D % 4294967296 : Nat) : Int) = w at *
          simp [hne]
        · rw [ofN_pos y]; simp; left; omega
  rw [htest]
  unfold printS
  by_cases c : nv v.2.2.1 = 1
  · rw [if_pos c, decide_eq_true c, T.run_ite_f (by rfl), T.run_ret]; rfl
  · rw [if_neg c, decide_eq_false c, T.run_ite_t (by rfl)]
    simp only [cat]
    rw [T.run_leN _ (by simp; omega), T.run_bind_of hpd, T.run_leN _ (by simp; omega), T.run_ret]
    simp
end Go.AM.Lf
