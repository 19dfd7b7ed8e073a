/-
  Plain laws of the lifted program: P3u.
-/
import Derived.Test.YtgfadkdgifpddaaQP3t
set_option linter.unusedVariables false
namespace Go.AM.Lf
open PL
theorem dec_units_run (a : Rat) (h : ratOk 1000 a) (s : Nat) (hs : s ≤ 100) (hD : nv a.2.2.1 ≠ 0) : (dec_units a (s : Int)).run = some (ofN (rnd (nv a.2.1 * 10 ^ s) (nv a.2.2.1))) := by
  obtain ⟨hn, hd, ln, ld⟩ := h
  have hl10 := ten_len s
  have hm := nat_Mul_run a.2.1 (ofN (10 ^ s)) hn (limbs_ofN _) (by omega) (by omega)
  rw [nv_ofN] at hm
  have hml := Nat.le_trans (mul_len (nv a.2.1) (10 ^ s)) (Nat.add_le_add (ofN_nv_len hn) hl10)
  have hdm := nat_DivMod_run (ofN (nv a.2.1 * 10 ^ s)) a.2.2.1 (limbs_ofN _) hd (by omega) (by omega)
  rw [nv_ofN, if_neg hD] at hdm
  generalize nv a.2.1 * 10 ^ s = N at *
  have hq := ofN_len_mono (Nat.div_le_self N (nv a.2.2.1))
  have hr := Nat.le_trans (ofN_len_mono (Nat.le_of_lt (Nat.mod_lt N (Nat.pos_of_ne_zero hD)))) (ofN_nv_len hd)
  have hsh : (nat_Shift (ofN (N % nv a.2.2.1)) 1).run = some (ofN (2 * (N % nv a.2.2.1))) := by
    have := Shift_pos_run (ofN (N % nv a.2.2.1)) (limbs_ofN _) (by omega) 1 (by omega)
    rw [nv_ofN, Nat.pow_one, Nat.mul_comm] at this
    exact this
  have hr2 : (ofN (2 * (N % nv a.2.2.1))).length ≤ 100000 := by
    have := mul_len 2 (N % nv a.2.2.1)
    have h2 : (ofN 2).length ≤ 1 := ofN_len_le.2 (by decide)
    omega
  have hc := nat_Cmp_run (ofN (2 * (N % nv a.2.2.1))) a.2.2.1 (limbs_ofN _) hd (by omega) (by omega)
  rw [nv_ofN] at hc
  have h1 : (nat_Of 1).run = some (ofN 1) := nat_Of_run 1 (by omega)
  have hadd := nat_Add_run (ofN (N / nv a.2.2.1)) (ofN 1) (limbs_ofN _) (limbs_ofN _) (by omega) (by rw [ofN_one]; simp)
  rw [nv_ofN, nv_ofN] at hadd
  have hlb := lowbit (N / nv a.2.2.1) (by omega)
  have hrt := rnd_test (N % nv a.2.2.1) (nv a.2.2.1) (N / nv a.2.2.1)
  unfold dec_units
  rw [T.run_bind_of (dec_ten_run s (by omega)), T.run_bind_of hm, T.run_bind_of hdm]
  simp only
  rw [T.run_bind_of hsh, T.run_bind_of hc]
  rw [T.run_obl (fun _ _ h => ⟨by omega, by simpa using h⟩)]
  simp only [dflt_u32, hlb, hrt, T.run_iteS, decide_eq_true_eq]
  unfold rnd
  split
  · rename_i c
    rw [T.run_bind_of h1, T.run_bind_of hadd, T.run_ret]
  · rfl
theorem ref3_units_core (a : Rat) (b : Rat) (hb : b = ratN a.1 (nv a.2.1) (nv a.2.2.1)) (ha : ratOk 1000 a) (h : ratOk 1000 b) (s : Nat) (hs : s ≤ 100) (hD : nv b.2.2.1 ≠ 0) : (ref3_units a (s : Int)).run = some (ofN (rnd (nv b.2.1 * 10 ^ s) (nv b.2.2.1))) := by
  obtain ⟨hn, hd, ln, ld⟩ := h
  have hno := ref2_Norm_run a ⟨ha.1, ha.2.1, Nat.le_trans ha.2.2.1 (by omega), Nat.le_trans ha.2.2.2 (by omega)⟩
  rw [← hb] at hno
  have hl10 := ten_len s
  have hm := ref1_Mul_run b.2.1 (ofN (10 ^ s)) hn (limbs_ofN _) (by omega) (by omega)
  rw [nv_ofN] at hm
  have hml := Nat.le_trans (mul_len (nv b.2.1) (10 ^ s)) (Nat.add_le_add (ofN_nv_len hn) hl10)
  have hdm := ref1_DivMod_run (ofN (nv b.2.1 * 10 ^ s)) b.2.2.1 (limbs_ofN _) hd (by omega) (by omega)
  rw [nv_ofN, if_neg hD] at hdm
  generalize nv b.2.1 * 10 ^ s = N at *
  have hq := ofN_len_mono (Nat.div_le_self N (nv b.2.2.1))
  have hr := Nat.le_trans (ofN_len_mono (Nat.le_of_lt (Nat.mod_lt N (Nat.pos_of_ne_zero hD)))) (ofN_nv_len hd)
  have hsh := ref1_Add_run (ofN (N % nv b.2.2.1)) (ofN (N % nv b.2.2.1)) (limbs_ofN _) (limbs_ofN _) (by omega) (by omega)
  rw [nv_ofN, ← Nat.two_mul] at hsh
  have hr2 : (ofN (2 * (N % nv b.2.2.1))).length ≤ 100000 := by
    have := mul_len 2 (N % nv b.2.2.1)
    have h2 : (ofN 2).length ≤ 1 := ofN_len_le.2 (by decide)
    omega
  have hc := ref1_Cmp_run (ofN (2 * (N % nv b.2.2.1))) b.2.2.1 (limbs_ofN _) hd (by omega) (by omega)
  rw [nv_ofN] at hc
  have hadd := ref1_Add_run (ofN (N / nv b.2.2.1)) [1] (limbs_ofN _) one_limb (by omega) (by simp)
  rw [nv_ofN, show nv [1] = 1 from rfl] at hadd
  have hlb := lowbit (N / nv b.2.2.1) (by omega)
  have hrt := rnd_test (N % nv b.2.2.1) (nv b.2.2.1) (N / nv b.2.2.1)
  unfold ref3_units
  rw [T.run_bind_of hno, T.run_bind_of (ref3_ten_run s (by omega)), T.run_bind_of hm, T.run_bind_of hdm]
  simp only
  rw [T.run_bind_of hsh, T.run_bind_of hc]
  rw [T.run_obl (fun _ _ h => ⟨by omega, by simpa using h⟩)]
  simp only [dflt_u32, hlb, hrt, T.run_iteS, decide_eq_true_eq]
  unfold rnd
  split
  · rw [T.run_bind_of hadd, T.run_ret]
  · rfl
/-! ### Normal ones -/
theorem gcd_norm (n d : Nat) (h : Nat.gcd n d ≠ 0) : Nat.gcd (n / Nat.gcd n d) (d / Nat.gcd n d) = 1 := by
  have := Nat.gcd_mul_left (Nat.gcd n d) (n / Nat.gcd n d) (d / Nat.gcd n d)
  rw [Nat.mul_div_cancel' (Nat.gcd_dvd_left n d), Nat.mul_div_cancel' (Nat.gcd_dvd_right n d)] at this
  have h2 : Nat.gcd n d * Nat.gcd (n / Nat.gcd n d) (d / Nat.gcd n d) = Nat.gcd n d * 1 := by omega
  exact Nat.eq_of_mul_eq_mul_left (Nat.pos_of_ne_zero h) h2
theorem ratN_idem (neg : Bool) (n d : Nat) : ratN (ratN neg n d).1 (nv (ratN neg n d).2.1) (nv (ratN neg n d).2.2.1) = ratN neg n d := by
  by_cases h : n = 0 ∨ d = 0
  · have e : ratN neg n d = (false, [], [1], ()) := by unfold ratN; rw [if_pos h]
    rw [e]; rfl
  · have e : ratN neg n d = (neg, ofN (n / Nat.gcd n d), ofN (d / Nat.gcd n d), ()) := by unfold ratN; rw [if_neg h]
    rw [e]
    have hn : n ≠ 0 := fun z => h (.inl z)
    have hd : d ≠ 0 := fun z => h (.inr z)
    have hg : Nat.gcd n d ≠ 0 := fun z => hn (Nat.gcd_eq_zero_iff.1 z).1
    have h1 : n / Nat.gcd n d ≠ 0 := Nat.div_ne_zero_iff.2 ⟨hg, Nat.gcd_le_left d (Nat.pos_of_ne_zero hn)⟩
    have h2 : d / Nat.gcd n d ≠ 0 := Nat.div_ne_zero_iff.2 ⟨hg, Nat.gcd_le_right n (Nat.pos_of_ne_zero hd)⟩
    simp only [nv_ofN]
    unfold ratN
    rw [if_neg (by intro z; rcases z with z | z <;> contradiction), gcd_norm n d hg, Nat.div_one, Nat.div_one]
theorem ratN_den (neg : Bool) (n d : Nat) : nv (ratN neg n d).2.2.1 ≠ 0 := by
  unfold ratN
  split
  · show nv [1] ≠ 0; decide
  · rename_i h
    have hn : n ≠ 0 := fun z => h (.inl z)
    have hd : d ≠ 0 := fun z => h (.inr z)
    have hg : Nat.gcd n d ≠ 0 := fun z => hn (Nat.gcd_eq_zero_iff.1 z).1
    simp only [nv_ofN]
    exact Nat.div_ne_zero_iff.2 ⟨hg, Nat.gcd_le_right n (Nat.pos_of_ne_zero hd)⟩
theorem ratN_neg (neg : Bool) (n d : Nat) (h : (ratN neg n d).1 = true) : nv (ratN neg n d).2.1 ≠ 0 := by
  unfold ratN at h ⊢
  split at h
  · cases h
  · rename_i c
    have hn : n ≠ 0 := fun z => c (.inl z)
    have hg : Nat.gcd n d ≠ 0 := fun z => hn (Nat.gcd_eq_zero_iff.1 z).1
    rw [if_neg c]
    simp only [nv_ofN]
    exact Nat.div_ne_zero_iff.2 ⟨hg, Nat.gcd_le_left d (Nat.pos_of_ne_zero hn)⟩
theorem ratN_fst (neg : Bool) (n d : Nat) (hd : d ≠ 0) : (ratN neg n d).1 = (neg && decide (n ≠ 0)) := by
  unfold ratN
  by_cases c : n = 0
  · subst c; simp
  · rw [if_neg (by intro z; rcases z with z | z <;> contradiction)]; simp [c]
/-! ### Rounding -/
def clampS (s : Int) : Nat := (minI (maxI s 0) 9).toNat
theorem clampS_le (s : Int) : clampS s ≤ 9 := by unfold clampS minI maxI; split <;> split <;> omega
theorem clampS_eq (s : Int) : minI (maxI s 0) 9 = (clampS s : Int) := by unfold clampS minI maxI; split <;> split <;> omega
theorem held_run (s : Int) : (dec_held s).run = some (clampS s : Int) := by unfold dec_held; rw [T.run_ret, clampS_eq]
theorem clamp_id (k : Nat) (h : k ≤ 9) : clampS (k : Int) = k := by unfold clampS minI maxI; split <;> split <;> omega
/-- A number rounded. -/
def rndR (a : Rat) (k : Nat) : Nat := rnd (nv a.2.1 * 10 ^ k) (nv a.2.2.1)
theorem rnd_len (a : Rat) (h : ratOk 1000 a) (k : Nat) (hk : k ≤ 100) : (ofN (rndR a k)).length ≤ 2000 := by
  have h1 : rndR a k ≤ nv a.2.1 * 10 ^ k + 1 := by
    unfold rndR rnd
    have := Nat.div_le_self (nv a.2.1 * 10 ^ k) (nv a.2.2.1)
    split <;> omega
  have h2 := Nat.le_trans (mul_len (nv a.2.1) (10 ^ k)) (Nat.add_le_add (ofN_nv_len h.1) (ten_len k))
  have h3 := h.2.2.1
  have h4 : (ofN (nv a.2.1 * 10 ^ k + 1)).length ≤ (ofN (nv a.2.1 * 10 ^ k)).length + 1 := by
    refine ofN_len_le.2 ?_
    have := ofN_len_le.1 (Nat.le_refl (ofN (nv a.2.1 * 10 ^ k)).length)
    rw [Nat.pow_succ]
    have hp := pow_pos' (ofN (nv a.2.1 * 10 ^ k)).length
    omega
  have h5 := ofN_len_mono h1
  omega
theorem ok_up {j k : Nat} {a : Rat} (h : ratOk j a) (hk : j ≤ k) : ratOk k a := ⟨h.1, h.2.1, Nat.le_trans h.2.2.1 hk, Nat.le_trans h.2.2.2 hk⟩
def norm (a : Rat) : Rat := ratN a.1 (nv a.2.1) (nv a.2.2.1)
theorem norm_ok {k : Nat} (hk : 1 ≤ k) {a : Rat} (h : ratOk k a) : ratOk k (norm a) := ratN_ok _ _ _ k hk (Nat.le_trans (ofN_nv_len h.1) h.2.2.1) (Nat.le_trans (ofN_nv_len h.2.1) h.2.2.2)
theorem norm_idem (a : Rat) : norm (norm a) = norm a := ratN_idem _ _ _
theorem rat_norm (a : Rat) (h : ratOk 100000000 a) : (rat_Norm a).run = some (norm a) := rat_Norm_run a h
theorem ref2_norm (a : Rat) (h : ratOk 100000000 a) : (ref2_Norm a).run = some (norm a) := ref2_Norm_run a h
theorem dec_units_run' (a : Rat) (h : ratOk 1000 a) (s : Nat) (hs : s ≤ 100) (hD : nv a.2.2.1 ≠ 0) : (dec_units a (s : Int)).run = some (ofN (rndR a s)) := dec_units_run a h s hs hD
theorem ref3_units_run (a : Rat) (ha : ratOk 1000 a) (h : ratOk 1000 (norm a)) (s : Nat) (hs : s ≤ 100) : (ref3_units a (s : Int)).run = some (ofN (rndR (norm a) s)) := ref3_units_core a (norm a) rfl ha h s hs (ratN_den _ _ _)
theorem dec_Round_run (a : Rat) (h : ratOk 1000 a) (s : Int) : (dec_Round a s).run = some (ratN (norm a).1 (rndR (norm a) (clampS s)) (10 ^ clampS s)) := by
  have hk := clampS_le s
  have hno := norm_ok (by omega) h
  have hu := dec_units_run' (norm a) hno (clampS s) (by omega) (ratN_den _ _ _)
  have hl := rnd_len (norm a) hno (clampS s) (by omega)
  have h10 := ten_len (clampS s)
  have hof := rat_Of_run (norm a).1 (ofN (rndR (norm a) (clampS s))) (ofN (10 ^ clampS s)) (limbs_ofN _) (limbs_ofN _) (by omega) (by omega)
  rw [nv_ofN, nv_ofN] at hof
  unfold dec_Round
  rw [T.run_bind_of (rat_norm a (ok_up h (by omega))), T.run_bind_of (held_run s)]
  rw [T.run_bind_of hu, T.run_bind_of (dec_ten_run _ (by omega)), T.run_bind_of hof, T.run_ret]
theorem ref3_Round_run (a : Rat) (h : ratOk 1000 a) (s : Int) : (ref3_Round a s).run = some (ratN (norm a).1 (rndR (norm a) (clampS s)) (10 ^ clampS s)) := by
  have hk := clampS_le s
  have hno := norm_ok (by omega) h
  have hu := ref3_units_run a h hno (clampS s) (by omega)
  have hl := rnd_len (norm a) hno (clampS s) (by omega)
  have h10 := ten_len (clampS s)
  have hof := ref2_Of_run (norm a).1 (ofN (rndR (norm a) (clampS s))) (ofN (10 ^ clampS s)) (limbs_ofN _) (limbs_ofN _) (by omega) (by omega)
  rw [nv_ofN, nv_ofN] at hof
  unfold ref3_Round
  rw [T.run_bind_of (ref2_norm a (ok_up h (by omega))), clampS_eq]
  rw [T.run_bind_of hu, T.run_bind_of (ref3_ten_run _ (by omega)), T.run_bind_of hof, T.run_ret]
end Go.AM.Lf
