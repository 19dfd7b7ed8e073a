/-
  Plain laws of the lifted program: P3j.
-/
import Derived.Test.YtgfadkdgifpddaaQP3i
set_option linter.unusedVariables false
namespace Go.AM.Lf
open PL
/-! ### Knuth's division -/
theorem guess_run {u2 u1 u0 v1 v2 : Nat} (h2 : u2 < 4294967296) (h1 : u1 < 4294967296) (h0 : u0 < 4294967296) (hv1 : v1 < 4294967296) (hv2 : v2 < 4294967296) (hn : 2147483648 ≤ v1)
    (ht : u2 * 18446744073709551616 + u1 * 4294967296 + u0 < (v1 * 4294967296 + v2 + 1) * 4294967296) :
    (nat_guess (u2 : Int) (u1 : Int) (u0 : Int) (v1 : Int) (v2 : Int)).run = some ((min ((u2 * 18446744073709551616 + u1 * 4294967296 + u0) / (v1 * 4294967296 + v2)) 4294967295 : Nat) : Int) := by
  obtain ⟨t1, t2⟩ := guess_top hn hv2 ht
  have ti := guess_init (u2 := u2) (u1 := u1) (u0 := u0) (v1 := v1) (v2 := v2) (by omega) h0
  obtain ⟨Q, hQ⟩ : ∃ Q, (u2 * 18446744073709551616 + u1 * 4294967296 + u0) / (v1 * 4294967296 + v2) = Q := ⟨_, rfl⟩
  rw [hQ] at ti ⊢
  have hV : 0 < v1 * 4294967296 + v2 := by omega
  have e1 := hilo2 (x := (u2 : Int)) (y := (u1 : Int)) (by omega) (by omega) (by omega) (by omega)
  have e2 : (u2 : Int) * 4294967296 + (u1 : Int) = ((u2 * 4294967296 + u1 : Nat) : Int) := by omega
  have w1 : wu64 (u1 : Int) = u1 := wu64n (by omega)
  have w2 : wu64 (u2 : Int) = u2 := wu64n (by omega)
  have w0 : wu64 (u0 : Int) = u0 := wu64n (by omega)
  have x1 : wu64 (v1 : Int) = v1 := wu64n (by omega)
  have x2 : wu64 (v2 : Int) = v2 := wu64n (by omega)
  have e3 : Int.tdiv ((u2 * 4294967296 + u1 : Nat) : Int) (v1 : Int) = (((u2 * 4294967296 + u1) / v1 : Nat) : Int) := by rw [tdiv_pos (by omega)]; rfl
  have e4 : Int.tmod ((u2 * 4294967296 + u1 : Nat) : Int) (v1 : Int) = (((u2 * 4294967296 + u1) % v1 : Nat) : Int) := by rw [tmod_pos (by omega)]; rfl
  have hm : (u2 * 4294967296 + u1) % v1 < v1 := Nat.mod_lt _ (by omega)
  have hdm := Nat.div_add_mod (u2 * 4294967296 + u1) v1
  rw [Nat.mul_comm] at hdm
  have loop : ∃ r : Int, (nat_guess_L0 (u0 : Int) (v1 : Int) (v2 : Int) ((((u2 * 4294967296 + u1) / v1 : Nat) : Int), (((u2 * 4294967296 + u1) % v1 : Nat) : Int))).run = some r ∧ r = ((min Q 4294967295 : Nat) : Int) := by
    refine T.loop_post (fun s : Int × Int => ∃ q r : Nat, s.1 = (q : Int) ∧ s.2 = (r : Int) ∧ q ≤ 4294967297 ∧ r < 4294967296 ∧ q * v1 + r = u2 * 4294967296 + u1 ∧ min Q 4294967295 ≤ q)
      (fun s => s.1.toNat) _ ?_ ⟨_, _, rfl, rfl, t2, by omega, hdm, by omega⟩
    rintro ⟨_, _⟩ ⟨q, r, rfl, rfl, hq, hr, hqr, hmin⟩
    have e5 := hilo2 (x := (r : Int)) (y := (u0 : Int)) (by omega) (by omega) (by omega) (by omega)
    have es : shrI .u64 (q : Int) 32 = ((q / 4294967296 : Nat) : Int) := hi32 q
    by_cases hbig : 4294967296 ≤ q ∨ r * 4294967296 + u0 < q * v2
    · -- too many
      have hgt : min Q 4294967295 < q := by
        rcases hbig with h | h
        · omega
        · have := guess_gt hV (guess_dn (u2 := u2) (u1 := u1) (u0 := u0) (v1 := v1) (v2 := v2) hqr h)
          omega
      have ec : ((shrI .u64 (q : Int) 32 != 0) || decide (orI .u64 (shlI .u64 (r : Int) 32) (u0 : Int) < wu64 ((q : Int) * (v2 : Int)))) = true := by
        rw [es, e5]
        by_cases h : 4294967296 ≤ q
        · have : (((q / 4294967296 : Nat) : Int) != 0) = true := by simp; omega
          rw [this]; rfl
        · have hh : r * 4294967296 + u0 < q * v2 := hbig.resolve_left h
          have hm2 := mul_le_64 (x := q) (y := v2) (Nat.lt_of_not_le h) hv2
          have e6 : (q : Int) * (v2 : Int) = ((q * v2 : Nat) : Int) := by simp
          rw [e6, wu64n (Nat.lt_of_le_of_lt hm2 (by decide))]
          generalize q * v2 = z at *
          rw [show decide ((r : Int) * 4294967296 + (u0 : Int) < (z : Int)) = true from decide_eq_true (by omega)]; simp
      have eq1 : wu64 ((q : Int) - 1) = ((q - 1 : Nat) : Int) := by rw [wu64_in (by omega) (by omega)]; omega
      have er1 : wu64 ((r : Int) + (v1 : Int)) = ((r + v1 : Nat) : Int) := by rw [wu64_in (by omega) (by omega)]; omega
      have hq1 : (q - 1) * v1 + (r + v1) = u2 * 4294967296 + u1 := by
        obtain ⟨p, rfl⟩ : ∃ p, q = p + 1 := ⟨q - 1, by omega⟩
        rw [Nat.add_mul] at hqr
        simp only [Nat.add_sub_cancel]; omega
      by_cases hover : 4294967296 ≤ r + v1
      · right
        refine ⟨((q - 1 : Nat) : Int), ?_, ?_⟩
        · unfold nat_guess_R0
          simp only [w0, x1, x2, eq1, er1]
          rw [T.run_obl ⟨by omega, fun _ => by omega⟩, T.run_ite_t ec, T.run_leI _ (by omega), T.run_ite_t (by rw [hi32]; simp; omega), T.run_ret]
        · -- what is left cannot be more
          have hq2 : q - 1 ≤ Q := by
            rw [← hQ, Nat.le_div_iff_mul_le hV]
            refine guess_up (u0 := u0) hq1 ?_
            have h3 : q - 1 ≤ 4294967295 := by
              rcases Nat.lt_or_ge 4294967296 q with h | h
              · have hq3 : q = 4294967297 := by omega
                subst hq3
                simp only [Nat.add_one_sub_one] at hq1
                omega
              · omega
            have h4 : (q - 1) * v2 ≤ 4294967295 * 4294967295 := Nat.mul_le_mul h3 (by omega)
            generalize (q - 1) * v2 = z at *
            omega
          have h5 : q - 1 ≤ 4294967295 := by
            rcases Nat.lt_or_ge 4294967296 q with h | h
            · have hq3 : q = 4294967297 := by omega
              subst hq3
              simp only [Nat.add_one_sub_one] at hq1
              omega
            · omega
          omega
      · left
        refine ⟨(((q - 1 : Nat) : Int), ((r + v1 : Nat) : Int)), ?_, ⟨q - 1, r + v1, rfl, rfl, by omega, by omega, hq1, by omega⟩, by simp; omega⟩
        unfold nat_guess_R0
        simp only [w0, x1, x2, eq1, er1]
        rw [T.run_obl ⟨by omega, fun _ => by omega⟩, T.run_ite_t ec, T.run_leI _ (by omega), T.run_ite_f (by rw [hi32]; simp; omega), T.run_ret]
    · right
      have hm2 := mul_le_64 (x := q) (y := v2) (by omega) hv2
      have e6 : (q : Int) * (v2 : Int) = ((q * v2 : Nat) : Int) := by simp
      have ec : ((shrI .u64 (q : Int) 32 != 0) || decide (orI .u64 (shlI .u64 (r : Int) 32) (u0 : Int) < wu64 ((q : Int) * (v2 : Int)))) = false := by
        have hz : q / 4294967296 = 0 := by omega
        rw [es, e5, e6, wu64n (Nat.lt_of_le_of_lt hm2 (by decide)), hz]
        have hh : ¬ (r * 4294967296 + u0 < q * v2) := by omega
        generalize q * v2 = z at *
        rw [show decide ((r : Int) * 4294967296 + (u0 : Int) < (z : Int)) = false from decide_eq_false (by omega)]; rfl
      refine ⟨(q : Int), ?_, ?_⟩
      · unfold nat_guess_R0
        simp only [w0, x1, x2]
        rw [T.run_obl ⟨by omega, fun _ => by omega⟩, T.run_ite_f ec, T.run_ret]
      · have hq2 : q ≤ Q := by
          rw [← hQ, Nat.le_div_iff_mul_le hV]
          exact guess_up hqr (by omega)
        omega
  obtain ⟨r, hr, rfl⟩ := loop
  unfold nat_guess
  have e7 : wu64 (((u2 * 4294967296 + u1) / v1 : Nat) : Int) = (((u2 * 4294967296 + u1) / v1 : Nat) : Int) := wu64n (by omega)
  simp only [w1, w2, x1, e1, e2, e3, e4, e7]
  rw [T.run_leI _ (by omega), T.run_neI _ (by omega), T.run_neI _ (by omega), T.run_bind_of hr, T.run_ret]
end Go.AM.Lf
