/-
  Plain laws of the lifted program: P3x.
-/
import Derived.Test.YtgfadkdgifpddaaQP3w
import Derived.Test.YtgfadkdgifpddaaAmD
set_option linter.unusedVariables false
namespace Go.AM.Lf
open PL
theorem law3_limbs_refl (a : List Int) (la : a.length ≤ 1000000000) : (law3_limbs a a).run = some true := by
  have key : (law3_limbs_L0 a a 0).run = some (.inl ()) := by
    have := T.loop_run (r := law3_limbs_R0 a a) (fun i : Int => ∃ k : Nat, i = (k : Int) ∧ k ≤ a.length) (fun i => a.length - i.toNat) (fun _ => (.inl () : Unit ⊕ Bool)) ?_ (s := 0) ⟨0, rfl, by omega⟩
    · exact this
    · rintro _ ⟨k, rfl, hk⟩
      by_cases h : k < a.length
      · left
        refine ⟨((k + 1 : Nat) : Int), ?_, ⟨k + 1, rfl, by omega⟩, by simp only [Int.toNat_natCast]; omega, rfl⟩
        unfold law3_limbs_R0
        rw [T.run_ite_t (decide_eq_true (by omega)), T.run_idx _ (by omega) (by omega), T.run_idx _ (by omega) (by omega), T.run_ite_f (by simp), T.run_ret, i1 k (by omega)]
      · right
        unfold law3_limbs_R0
        rw [T.run_ite_f (decide_eq_false (by omega)), T.run_ret]
  unfold law3_limbs
  rw [T.run_ite_f (by simp), T.run_bind_of key]; rfl
theorem law3_one_refl (a : Rat) (h : ratOk 1000000000 a) : (law3_one a a).run = some true := by
  unfold law3_one
  rw [T.run_ite_t (by simp), T.run_bind_of (law3_limbs_refl _ h.2.2.1), T.run_ite_true, T.run_bind_of (law3_limbs_refl _ h.2.2.2), T.run_ret]
theorem strEq_refl (s : Str) : strEq s s = true := by rw [strEq_iff]; simp
/-- big of one number. -/
theorem big1_run (a : Rat) (h : a.2.1.length + a.2.2.1.length ≤ 4000000000) : (law3_big [a]).run = some (decide (16 < a.2.1.length + a.2.2.1.length)) := by
  have e0 : nth [a] 0 (dflt tyRat) = a := rfl
  have e1 : w64 (w64 (0 + (a.2.1.length : Int)) + (a.2.2.1.length : Int)) = ((a.2.1.length + a.2.2.1.length : Nat) : Int) := by
    rw [w64_in (x := 0 + (a.2.1.length : Int)) (by omega) (by omega), w64_in (by omega) (by omega)]; omega
  have ei : w64 (0 + 1) = 1 := by decide
  unfold law3_big
  by_cases c : 16 < a.2.1.length + a.2.2.1.length
  · have hL : (law3_big_L0 [a] (0, 0)).run = some (.inr true) := by
      refine T.loop_done ?_
      unfold law3_big_R0
      simp only [e0, e1]
      rw [T.run_ite_t (by simp), T.run_idx _ (by omega) (by simp), T.run_idx _ (by omega) (by simp), T.run_ite_t (decide_eq_true (by omega)), T.run_ret]
    rw [T.run_bind_of hL, decide_eq_true c]; rfl
  · have hL : (law3_big_L0 [a] (0, 0)).run = some (.inl ()) := by
      have hs : (law3_big_R0 [a] (0, 0)).run = some (.inl (((a.2.1.length + a.2.2.1.length : Nat) : Int), 1)) := by
        unfold law3_big_R0
        simp only [e0, e1, ei]
        rw [T.run_ite_t (by simp), T.run_idx _ (by omega) (by simp), T.run_idx _ (by omega) (by simp), T.run_ite_f (decide_eq_false (by omega)), T.run_ret]
      refine (T.loop_step hs).trans (T.loop_done ?_)
      unfold law3_big_R0
      rw [T.run_ite_f (by simp), T.run_ret]
    rw [T.run_bind_of hL, decide_eq_false c]; rfl
/-- The two that are known. -/
theorem dgz_small (n : Nat) (h : n < 10) (h0 : n ≠ 0) : dgz n = [dgt n] := by
  rw [dgz_pos h0, show n / 10 = 0 by omega, dgz_zero]; rfl
theorem known_run : (law3_known).run = some true := by
  have l5 : limbs [(5 : Int)] := by intro x hx; simp at hx; omega
  have l2 : limbs [(2 : Int)] := by intro x hx; simp at hx; omega
  have l8 : limbs [(8 : Int)] := by intro x hx; simp at hx; omega
  have h1 := dec_Fixed_run (false, [5], [2], ()) ⟨l5, l2, by simp, by simp⟩ 0
  have h2 := dec_Fixed_run (true, [1], [8], ()) ⟨one_limb, l8, by simp, by simp⟩ 2
  have n1 : norm (false, [5], [2], ()) = (false, ofN 5, ofN 2, ()) := by
    show ratN false (nv [5]) (nv [2]) = _
    rw [show nv [5] = 5 from rfl, show nv [2] = 2 from rfl]; rfl
  have n2 : norm (true, [1], [8], ()) = (true, ofN 1, ofN 8, ()) := by
    show ratN true (nv [1]) (nv [8]) = _
    rw [show nv [1] = 1 from rfl, show nv [8] = 8 from rfl]; rfl
  have f1 : fixedS (norm (false, [5], [2], ())) (clampS 0) = [50] := by
    rw [n1, show clampS 0 = 0 from rfl]
    unfold fixedS rndR
    simp only [nv_ofN]
    rw [show rnd (5 * 10 ^ 0) 2 = 2 from rfl]
    unfold pr
    rw [if_neg (by omega), dgz_small 2 (by omega) (by omega)]; rfl
  have f2 : fixedS (norm (true, [1], [8], ())) (clampS 2) = [45, 48, 46, 49, 50] := by
    rw [n2, show clampS 2 = 2 from rfl]
    unfold fixedS rndR
    simp only [nv_ofN]
    rw [show rnd (1 * 10 ^ 2) 8 = 12 from rfl]
    have : pr 12 = [49, 50] := by
      unfold pr
      rw [if_neg (by omega), dgz_pos (by omega), show 12 / 10 = 1 from rfl, dgz_small 1 (by omega) (by omega)]; rfl
    rw [this]; rfl
  rw [f1] at h1
  rw [f2] at h2
  unfold law3_known
  rw [T.run_bind_of h1, T.run_ite_t (strEq_refl _), T.run_bind_of h2, T.run_ret, strEq_refl]
theorem limbs_wf {l : List Int} (h : wf (.sl u32) l) : limbs l := fun x hx => by
  obtain ⟨p, q⟩ := h x hx
  have p' : (0 : Int) ≤ x := p
  have q' : x ≤ 4294967295 := q
  exact ⟨p', by omega⟩
theorem bk_sl {l : List Int} : bk (.sl u32) l = l.length + 1 := by
  show sumB (bk u32) l + 1 = _
  congr 1
  exact sumB_one l
theorem rat_wf {a : Rat} (h : wf tyRat a) : limbs a.2.1 ∧ limbs a.2.2.1 := ⟨limbs_wf h.2.1, limbs_wf h.2.2.1⟩
theorem rat_bk {a : Rat} {k : Nat} (h : bk tyRat a ≤ k) : a.2.1.length + a.2.2.1.length ≤ k := by
  have : bk tyRat a = bk .bool a.1 + (bk (.sl u32) a.2.1 + (bk (.sl u32) a.2.2.1 + bk .nil a.2.2.2)) := rfl
  rw [bk_sl, bk_sl] at this
  omega
theorem law3_DecPrints_law (x : denL [tyRat, i64]) (hw : wfL [tyRat, i64] x) (hb : bkL [tyRat, i64] x ≤ 1048576) : (law3_DecPrints (toPs [tyRat, i64] x).1 (toPs [tyRat, i64] x).2).run = some true := by
  obtain ⟨a, s, u⟩ := x
  have hl := rat_wf hw.1
  have hbk : a.2.1.length + a.2.2.1.length ≤ 1048576 := rat_bk (a := a) (by
    have : bkL [tyRat, i64] (a, s, u) = bk tyRat a + (bk i64 s + 0) := rfl
    omega)
  show (law3_DecPrints a s).run = some true
  unfold law3_DecPrints
  rw [T.run_bind_of (big1_run a (by omega))]
  by_cases c : 16 < a.2.1.length + a.2.2.1.length
  · rw [decide_eq_true c]; rfl
  · rw [decide_eq_false c, T.run_ite_false]
    have ha : ratOk 1000 a := ⟨hl.1, hl.2, by omega, by omega⟩
    have hr := rnd_len (norm a) (norm_ok (by omega) ha) (clampS s) (by have := clampS_le s; omega)
    have h10 := ten_len (clampS s)
    have hk := clampS_le s
    have hok : ratOk 1000000000 (ratN (norm a).1 (rndR (norm a) (clampS s)) (10 ^ clampS s)) := ratN_ok _ _ _ _ (by omega) (by omega) (by omega)
    rw [T.run_bind_of (dec_Exact_run a ha)]
    rw [T.run_bind_of (ref3_Exact_run a ha)]
    rw [T.run_bind_of (dec_Print_run a ha), T.run_bind_of (ref3_Print_run a ha), T.run_ite_t (strEq_refl _), T.run_ite_t (strEq_refl _), T.run_ite_t (by simp), T.run_bind_of (dec_Round_run a ha s), T.run_bind_of (ref3_Round_run a ha s),
      T.run_bind_of (law3_one_refl _ hok), T.run_ite_true, T.run_bind_of (dec_Fixed_run a ha s), T.run_bind_of (ref3_Fixed_run a ha s), T.run_ite_t (strEq_refl _), T.run_bind_of known_run, T.run_ret]
end Go.AM.Lf
