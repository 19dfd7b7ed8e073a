/-
  Plain laws of the lifted program: P3v.
-/
import Derived.Test.YtgfadkdgifpddaaQP3u
set_option linter.unusedVariables false
namespace Go.AM.Lf
open PL
/-- Digits with a point. -/
def sgS (b : Bool) : Str := if b = true then [45] else []
def ptd (s : Str) (n : Nat) : Str := if n = 0 then s else
  (repS [48] (n + 1 - s.length) ++ s).take ((repS [48] (n + 1 - s.length) ++ s).length - n) ++ [46] ++ (repS [48] (n + 1 - s.length) ++ s).drop ((repS [48] (n + 1 - s.length) ++ s).length - n)
theorem repS_len (k : Nat) : (repS [48] k).length = k := by
  induction k with
  | zero => rfl
  | succ k ih => simp [repS, ih]
theorem cutS_nat (s : Str) (l h : Nat) : cutS (l : Int) (h : Int) s = (s.take h).drop l := by unfold cutS; simp
theorem pointed_run (s : Str) (n : Nat) (hn : n ≤ 1000) (hs : s.length ≤ 1000000000) : (dec_pointed s (n : Int)).run = some (ptd s n) := by
  unfold dec_pointed ptd
  by_cases h : n = 0
  · subst h; rw [T.run_ite_t (by rfl), T.run_ret, if_pos rfl]
  · rw [T.run_ite_f (by simp; omega), if_neg h]
    have e1 : maxI 0 (w64 (w64 ((n : Int) + 1) - (s.length : Int))) = ((n + 1 - s.length : Nat) : Int) := by
      rw [i1 n (by omega), w64_in (by omega) (by omega)]; unfold maxI; split <;> omega
    have hrep : (strings_Repeat [48] ((n + 1 - s.length : Nat) : Int)).run = some (repS [48] (n + 1 - s.length)) := by
      unfold strings_Repeat
      rw [T.run_obl ⟨by omega, by omega, by simp; omega⟩, T.run_ret, Int.toNat_natCast]
    rw [e1, T.run_bind_of hrep]
    have hl := repS_len (n + 1 - s.length)
    simp only [cat]
    generalize hR : repS [48] (n + 1 - s.length) ++ s = t
    have htl : t.length = (n + 1 - s.length) + s.length := by rw [← hR, List.length_append, hl]
    have e2 : w64 ((t.length : Int) - (n : Int)) = ((t.length - n : Nat) : Int) := by rw [w64_in (by omega) (by omega)]; omega
    have c0 : cutS 0 ((t.length - n : Nat) : Int) t = t.take (t.length - n) := by have := cutS_nat t 0 (t.length - n); simpa using this
    have c1 : cutS ((t.length - n : Nat) : Int) (t.length : Int) t = t.drop (t.length - n) := by rw [cutS_nat, List.take_length]
    simp only [e2, c0, c1]
    rw [T.run_leN _ (by omega), T.run_sl _ (by omega) (by omega) (by omega), T.run_leN _ (by simp; omega), T.run_sl _ (by omega) (by omega) (by omega), T.run_leN _ (by simp; omega), T.run_ret]
theorem sign_run (a : Rat) : (dec_sign a).run = some (sgS a.1) := by
  unfold dec_sign sgS; rw [T.run_iteS]; split <;> rfl
theorem ref3_sign_run (b : Bool) : (ref3_sign b).run = some (sgS b) := by
  unfold ref3_sign sgS; rw [T.run_iteS]; split <;> rfl
theorem sgS_len (b : Bool) : (sgS b).length ≤ 1 := by unfold sgS; split <;> simp
theorem pr_len (n k : Nat) (h : (ofN n).length ≤ k) : (pr n).length ≤ 18 * k + 1 := by
  unfold pr
  split
  · simp
  · obtain ⟨z, hz⟩ := blk_rd n
    have h1 := blk_len n k (ofN_len_le.1 h)
    have h2 := congrArg List.length hz
    rw [List.length_append] at h2
    rw [dgz_rd]
    simp only [bytesStr, List.length_map, List.length_reverse]
    omega
theorem ptd_len (s : Str) (n : Nat) : (ptd s n).length ≤ s.length + n + 2 := by
  unfold ptd
  split
  · omega
  · have := repS_len (n + 1 - s.length)
    simp [this]; omega
theorem repS_snoc (k : Nat) (s : Str) : repS [48] k ++ ([48] ++ s) = repS [48] (k + 1) ++ s := by
  induction k with
  | zero => rfl
  | succ k ih => simp only [repS, List.append_assoc] at ih ⊢; rw [ih]
theorem digits_run (n : List Int) (hn : limbs n) (ln : n.length ≤ 1000000) (least : Nat) (hl : least ≤ 100000) : (ref3_digits n (least : Int)).run = some (repS [48] (least - (pr (nv n)).length) ++ pr (nv n)) := by
  have hpl := pr_len (nv n) 1000000 (Nat.le_trans (ofN_nv_len hn) ln)
  have loop := T.loop_run (r := ref3_digits_R0 (least : Int)) (fun s : Str => s.length ≤ 100000000) (fun s => least - s.length) (fun s => repS [48] (least - s.length) ++ s) ?_ (s := pr (nv n)) (by omega)
  · have loop' : (ref3_digits_L0 (least : Int) (pr (nv n))).run = _ := loop
    unfold ref3_digits
    rw [T.run_bind_of (ref1_Print_run n hn ln), T.run_bind_of loop', T.run_ret]
  · intro s hs
    by_cases h : s.length < least
    · left
      refine ⟨[48] ++ s, ?_, by simp; omega, by simp; omega, ?_⟩
      · unfold ref3_digits_R0
        rw [T.run_ite_t (by simpa using h), T.run_leN _ (by simp; omega), T.run_ret]; rfl
      · rw [show least - s.length = (least - ([48] ++ s).length) + 1 by simp; omega, ← repS_snoc]
    · right
      unfold ref3_digits_R0
      rw [T.run_ite_f (by simpa using h), T.run_ret, show least - s.length = 0 by omega]; rfl
theorem pr_pos (n : Nat) : 1 ≤ (pr n).length := by
  unfold pr
  split
  · simp
  · rename_i h
    rw [dgz_pos h]; simp
theorem point_run (neg : Bool) (n : Nat) (k : Nat) (hk : k ≤ 1000) (hn : (ofN n).length ≤ 100000) : (ref3_point neg (ofN n) (k : Int)).run = some (sgS (neg && decide (n ≠ 0)) ++ ptd (pr n) k) := by
  have hd := digits_run (ofN n) (limbs_ofN n) (by omega) (k + 1) (by omega)
  rw [nv_ofN] at hd
  have hpl := pr_len n 100000 hn
  have hpp := pr_pos n
  have hl := repS_len (k + 1 - (pr n).length)
  have hsg : decide ((0 : Int) < ((ofN n).length : Int)) = decide (n ≠ 0) := by
    by_cases c : n = 0
    · subst c; rw [ofN_zero]; rfl
    · have : (ofN n).length ≠ 0 := fun h => c (ofN_eq_nil.1 (List.eq_nil_of_length_eq_zero h))
      rw [decide_eq_true (by omega), decide_eq_true c]
  unfold ref3_point
  rw [i1 k (by omega), T.run_bind_of hd, hsg]
  have hpt : (bif decide ((0 : Int) < (k : Int)) then cat (cat (cutS 0 (w64 (((repS [48] (k + 1 - (pr n).length) ++ pr n).length : Int) - (k : Int))) (repS [48] (k + 1 - (pr n).length) ++ pr n)) [46]) (cutS (w64 (((repS [48] (k + 1 - (pr n).length) ++ pr n).length : Int) - (k : Int))) ((repS [48] (k + 1 - (pr n).length) ++ pr n).length : Int) (repS [48] (k + 1 - (pr n).length) ++ pr n)) else (repS [48] (k + 1 - (pr n).length) ++ pr n)) = ptd (pr n) k := by
    unfold ptd
    by_cases c : k = 0
    · subst c
      rw [show decide ((0 : Int) < ((0 : Nat) : Int)) = false from rfl, cond_false, if_pos rfl, show 0 + 1 - (pr n).length = 0 by omega]; rfl
    · rw [decide_eq_true (by omega), cond_true, if_neg c]
      generalize hR : repS [48] (k + 1 - (pr n).length) ++ pr n = t
      have htl : t.length = (k + 1 - (pr n).length) + (pr n).length := by rw [← hR, List.length_append, hl]
      have e2 : w64 ((t.length : Int) - (k : Int)) = ((t.length - k : Nat) : Int) := by rw [w64_in (by omega) (by omega)]; omega
      have c0 : cutS 0 ((t.length - k : Nat) : Int) t = t.take (t.length - k) := by have := cutS_nat t 0 (t.length - k); simpa using this
      have c1 : cutS ((t.length - k : Nat) : Int) (t.length : Int) t = t.drop (t.length - k) := by rw [cutS_nat, List.take_length]
      rw [e2, c0, c1]; rfl
  have hfl := ptd_len (pr n) k
  rw [hpt]
  generalize hR : repS [48] (k + 1 - (pr n).length) ++ pr n = t
  have htl : t.length = (k + 1 - (pr n).length) + (pr n).length := by rw [← hR, List.length_append, hl]
  have e2 : w64 ((t.length : Int) - (k : Int)) = ((t.length - k : Nat) : Int) := by rw [w64_in (by omega) (by omega)]; omega
  rw [T.run_obl (fun hk0 => by
    have c0 : cutS 0 ((t.length - k : Nat) : Int) t = t.take (t.length - k) := by have := cutS_nat t 0 (t.length - k); simpa using this
    have c1 : cutS ((t.length - k : Nat) : Int) (t.length : Int) t = t.drop (t.length - k) := by rw [cutS_nat, List.take_length]
    rw [e2, c0, c1]
    refine ⟨⟨by omega, by omega, by omega⟩, by simp; omega, ⟨by omega, by omega, by omega⟩, by simp [cat]; omega⟩)]
  cases neg with
  | true =>
    have hs1 := sgS_len (decide (n ≠ 0))
    rw [T.run_ite_true, T.run_bind_of (ref3_sign_run _), T.run_leN _ (by omega), T.run_ret, Bool.true_and]; rfl
  | false =>
    have hs1 := sgS_len false
    rw [T.run_ite_false, T.run_bind_of (ref3_sign_run _), T.run_leN _ (by omega), T.run_ret, Bool.false_and]; rfl
/-- A number's text, rounded. -/
def fixedS (a : Rat) (k : Nat) : Str := sgS (a.1 && decide (rndR a k ≠ 0)) ++ ptd (pr (rndR a k)) k
theorem dec_Fixed_run (a : Rat) (h : ratOk 1000 a) (s : Int) : (dec_Fixed a s).run = some (fixedS (norm a) (clampS s)) := by
  have hk := clampS_le s
  have hno := norm_ok (by omega) h
  have hr := dec_Round_run (norm a) hno (clampS s : Int)
  rw [norm_idem, clamp_id _ hk] at hr
  have hl := rnd_len (norm a) hno (clampS s) (by omega)
  have hpr := nat_Print_run (ofN (rndR (norm a) (clampS s))) (limbs_ofN _) (by omega)
  rw [nv_ofN] at hpr
  have hpl := pr_len (rndR (norm a) (clampS s)) 2000 hl
  have hfl := ptd_len (pr (rndR (norm a) (clampS s))) (clampS s)
  have hsl := sgS_len ((norm a).1 && decide (rndR (norm a) (clampS s) ≠ 0))
  unfold dec_Fixed
  rw [T.run_bind_of (rat_norm a (ok_up h (by omega))), T.run_bind_of (held_run s), T.run_bind_of hr, T.run_bind_of (sign_run _), T.run_bind_of (dec_units_run' _ hno _ (by omega) (ratN_den _ _ _)), T.run_bind_of hpr, T.run_bind_of (pointed_run _ _ (by omega) (by omega))]
  rw [ratN_fst _ _ _ (Nat.pos_iff_ne_zero.1 (Nat.pow_pos (by omega)))]
  rw [T.run_leN _ (by omega), T.run_ret]; rfl
theorem ref3_Fixed_run (a : Rat) (h : ratOk 1000 a) (s : Int) : (ref3_Fixed a s).run = some (fixedS (norm a) (clampS s)) := by
  have hk := clampS_le s
  have hno := norm_ok (by omega) h
  have hl := rnd_len (norm a) hno (clampS s) (by omega)
  unfold ref3_Fixed
  rw [T.run_bind_of (ref2_norm a (ok_up h (by omega))), clampS_eq, T.run_bind_of (ref3_units_run a h hno _ (by omega)), T.run_bind_of (point_run _ _ _ (by omega) (by omega)), T.run_ret]; rfl
end Go.AM.Lf
