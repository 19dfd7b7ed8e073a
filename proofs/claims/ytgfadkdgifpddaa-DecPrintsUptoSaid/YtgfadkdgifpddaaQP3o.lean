/-
  Plain laws of the lifted program: P3o.
-/
import Derived.Test.YtgfadkdgifpddaaQP3n
set_option linter.unusedVariables false
namespace Go.AM.Lf
open PL
/-- One round of long. -/
theorem long_round (d : List Int) (hd : limbs d) (n : Nat) (hn : d.length = n + 2) (ln : n ≤ 999999990) (htop : 2147483648 ≤ lm d (n + 1)) (y : Int) (i : Nat) (li : i ≤ 1000000000) (u q : List Int) (hl : limbs u) (lu : u.length ≤ 2000000000) (hiu : i + d.length < u.length)
    (hq : limbs q) (hiq : i < q.length) (hlt : nv (u.drop (i + 1)) < nv d) :
    ∃ (xs : List Int) (z : Nat), (nat_long_R0 y d ((n + 2 : Nat) : Int) ((i : Int), u, q)).run = some (.inl ((i : Int) - 1, xs, q.set i (z : Int))) ∧ z < 4294967296 ∧ limbs xs ∧ xs.length = u.length ∧ xs.take i = u.take i ∧ nv (xs.drop i) < nv d ∧
      nv (xs.drop i) + z * nv d = lm u i + 4294967296 * nv (u.drop (i + 1)) := by
  have hwd := lm_drop (a := u) (i := i) (by omega)
  have hW := win_lt (lm_lt hl i) hlt
  rw [← hwd] at hW
  obtain ⟨x, hg, hx, g1, g2, hWp⟩ := win_guess d hd n hn htop (u.drop i) (limbs_drop hl i) (by rw [List.length_drop]; omega) hW
  have hdp : 0 < nv d := Nat.lt_of_le_of_lt (Nat.zero_le _) hlt
  obtain ⟨xs, hr, hxl, hxn, hxt, hxv⟩ := takes_run d hd (by omega) x hx u hl (by omega) i hiu hWp (near g2)
  have hdig := digit hdp g1 g2
  rw [hdig] at hxv
  rw [lm_drop', lm_drop', lm_drop'] at hg
  have hdq : nv (u.drop i) / nv d < 4294967296 := Nat.lt_of_le_of_lt g1 hx
  have hmod : nv (xs.drop i) < nv d := by
    have h1 := Nat.div_add_mod (nv (u.drop i)) (nv d)
    have h2 := Nat.mod_lt (nv (u.drop i)) hdp
    rw [Nat.mul_comm] at h1
    omega
  refine ⟨xs, nv (u.drop i) / nv d, ?_, hdq, hxl, hxn, hxt, hmod, by rw [hxv, hwd]⟩
  have hx1 : ∀ c : Bool, c = decide (nv (u.drop i) < x * nv d) → (if c = true then wu64 ((x : Int) - 1) else (x : Int)) = ((nv (u.drop i) / nv d : Nat) : Int) := by
    intro c hc
    rw [← hdig]
    by_cases cc : nv (u.drop i) < x * nv d
    · have hx0 : x ≠ 0 := by intro h; subst h; omega
      rw [hc, decide_eq_true cc, if_pos rfl, if_pos cc, wu64_in (by omega) (by omega)]; omega
    · rw [hc, decide_eq_false cc, if_neg (by simp), if_neg cc]
  generalize nv (u.drop i) / nv d = z at *
  clear g1 g2 hxv hdig hW hWp hlt hmod hwd
  have ei : w64 ((i : Int) - 1) = (i : Int) - 1 := w64_in (by omega) (by omega)
  have a0 : w64 ((i : Int) + ((n + 2 : Nat) : Int)) = ((i + (n + 1 + 1) : Nat) : Int) := by rw [w64_in (by omega) (by omega)]; omega
  have a1 : w64 (((i + (n + 1 + 1) : Nat) : Int) - 1) = ((i + (n + 1) : Nat) : Int) := by rw [w64_in (by omega) (by omega)]; omega
  have a2 : w64 (((i + (n + 1 + 1) : Nat) : Int) - 2) = ((i + n : Nat) : Int) := by rw [w64_in (by omega) (by omega)]; omega
  have a3 : w64 (((n + 2 : Nat) : Int) - 1) = ((n + 1 : Nat) : Int) := by rw [w64_in (by omega) (by omega)]; omega
  have a4 : w64 (((n + 2 : Nat) : Int) - 2) = ((n : Nat) : Int) := by rw [w64_in (by omega) (by omega)]; omega
  have a5 : w64 (((i + (n + 1 + 1) : Nat) : Int) + 1) = ((i + (n + 1 + 1) + 1 : Nat) : Int) := i1 _ (by omega)
  have hwin : i + (n + 1 + 1) + 1 - i = d.length + 1 := by omega
  unfold nat_long_R0
  simp only [ei, a0, a1, a2, a3, a4, a5]
  rw [T.run_ite_t (by simp)]
  rw [T.run_idx _ (by omega) (by omega), T.run_e _ rfl (by omega), T.run_idx _ (by omega) (by omega), T.run_e _ rfl (by omega), T.run_idx _ (by omega) (by omega), T.run_e _ rfl (by omega), T.run_idx _ (by omega) (by omega), T.run_idx _ (by omega) (by omega)]
  simp only [Int.toNat_natCast, Nat.zero_add, dflt_u32, nthN_lm hl, nth_lm hd, hwin]
  rw [T.run_bind_of hg]
  have hc := hx1 _ rfl
  rw [T.run_bind_of (a := ((z : Int), xs, q)) ?_]
  · simp only [wu32n hdq]
    rw [T.run_idx _ (by omega) (by omega), T.run_e _ rfl (by omega), T.run_cur _ (by simp) rfl (by simp), T.run_cur _ rfl rfl rfl, T.run_true, T.run_eqN _ (by simp), T.run_ret]
  · rw [T.run_sl _ (by omega) (by omega) (by omega), T.run_true, T.run_true, T.run_bind_of hr]
    simp only [T.run_iteS]
    by_cases cc : nv (u.drop i) < x * nv d
    · rw [if_pos (decide_eq_true cc)] at hc ⊢
      rw [T.run_cur _ rfl rfl rfl, T.run_cur _ (by omega) rfl (by omega), T.run_true, T.run_true, T.run_ret, hc]
    · rw [if_neg (by simpa using cc)] at hc ⊢
      rw [T.run_cur _ rfl rfl rfl, T.run_cur _ (by omega) rfl (by omega), T.run_true, T.run_true, T.run_ret, hc]
theorem long_loop (d : List Int) (hd : limbs d) (m n : Nat) (hn : d.length = n + 2) (hm : n + 2 ≤ m) (lm' : m ≤ 999999990) (htop : 2147483648 ≤ lm d (n + 1)) (u0 : List Int) (hu0 : limbs u0) (hlu : u0.length = m + 1)
    (hst : nv (u0.drop (m - (n + 2) + 1)) < nv d) (y : Int) :
    ∃ r : List Int × List Int, (nat_long_L0 y d ((n + 2 : Nat) : Int) (((m - (n + 2) : Nat) : Int), u0, List.replicate (m - (n + 2) + 1) 0)).run = some r ∧ limbs r.1 ∧ r.1.length = m + 1 ∧ limbs r.2 ∧ r.2.length = m - (n + 2) + 1 ∧ nv r.1 < nv d ∧ nv u0 = nv r.2 * nv d + nv r.1 := by
  refine T.loop_post (fun s : Int × List Int × List Int => ∃ k : Nat, s.1 = (k : Int) - 1 ∧ k ≤ m - (n + 2) + 1 ∧ limbs s.2.1 ∧ s.2.1.length = m + 1 ∧ limbs s.2.2 ∧ s.2.2.length = m - (n + 2) + 1 ∧ s.2.1.take k = u0.take k ∧
      nv (s.2.1.drop k) < nv d ∧ nv (u0.drop k) = nv (s.2.2.drop k) * nv d + nv (s.2.1.drop k))
    (fun s => (s.1 + 1).toNat) _ ?_ ⟨m - (n + 2) + 1, by simp, Nat.le_refl _, hu0, hlu, limbs_replicate _, by simp, rfl, hst, by simp⟩
  rintro ⟨_, u, q⟩ ⟨k, rfl, hk, hl, hul, hq, hql, htk, hlt, hv⟩
  simp only at hl hul hq hql htk hlt hv ⊢
  cases k with
  | zero =>
    right
    refine ⟨(u, q), ?_, hl, hul, hq, hql, by simpa using hlt, by simpa using hv⟩
    unfold nat_long_R0
    simp
  | succ i =>
    left
    obtain ⟨xs, z, hr, hz, hxl, hxn, hxt, hxm, hxv⟩ := long_round d hd n hn (by omega) htop y i (by omega) u q hl (by omega) (by omega) hq (by omega) hlt
    have e1 : ((i + 1 : Nat) : Int) - 1 = (i : Int) := by omega
    refine ⟨((i : Int) - 1, xs, q.set i (z : Int)), by rw [e1]; exact hr, ⟨i, rfl, by omega, hxl, hxn.trans hul, limbs_setN hq _ hz, by simpa using hql, ?_, hxm, ?_⟩, by simp⟩
    · simp only
      rw [hxt]
      have := congrArg (List.take i) htk
      rwa [List.take_take, List.take_take, show min i (i + 1) = i by omega] at this
    · simp only
      rw [set_drop _ (by omega), Int.toNat_natCast, lm_drop (a := u0) (by omega), ← lm_take_eq htk (show i < i + 1 by omega)]
      exact digit_alg hxv hv
end Go.AM.Lf
