/-
  Plain laws of the lifted program: P18b.
-/
import Derived.Test.YtbheldlkbfcjdaaQP18
set_option linter.unusedVariables false
namespace Go.AM.Lf

theorem back_run (f : Form) (on : List Bool) (t : Int) (hp : (f.2.2.1.length : Int) ≤ 1000000000000) (hw : (f.1.length : Int) ≤ 4611686018427387904) :
    (page_Back f on t).run = some (backOf (f.2.2.1.map (relP f.1 on)) t f.2.2.1.length) := by
  unfold page_Back
  rw [T.run_bind_of (relevant_run f on hp hw), T.run_obl (by simp only [List.length_map]; omega), T.run_ret, List.length_map]

theorem backOf_eq (l : List Bool) (t : Int) (j : Nat) (h1 : l[j]?.getD false = true) (h2 : (j : Int) < t) (h3 : ∀ k : Nat, j < k → (k : Int) < t → l[k]?.getD false = false) : ∀ m, j < m → backOf l t m = ((j : Int), true)
  | 0, h => by omega
  | k + 1, h => by
    by_cases e : k = j
    · subst e; simp only [backOf]; rw [if_pos ⟨h1, h2⟩]
    · simp only [backOf]
      rw [if_neg (fun hh => by have := h3 k (by omega) hh.2; rw [this] at hh; exact absurd hh.1 (by decide))]
      exact backOf_eq l t j h1 h2 h3 k (by omega)
theorem backOf_false (l : List Bool) (t : Int) : ∀ m, (backOf l t m).2 = false → backOf l t m = (t, false)
  | 0, _ => rfl
  | k + 1, h => by
    simp only [backOf] at h ⊢
    split at h
    · cases h
    · rename_i hc; rw [if_neg hc]; exact backOf_false l t k h
theorem nxt_none (t : Int) (l : List Bool) (i : Int) (hi : 0 ≤ i) (h : nxt t i l ≠ -1) : ∀ k : Nat, t < i + k → i + k < nxt t i l → l[k]?.getD false = false := by
  induction l generalizing i with
  | nil => exact absurd rfl h
  | cons b r ih =>
    intro k h1 h2
    simp only [nxt] at h h2
    by_cases hb : (b && decide (t < i)) = true
    · rw [if_pos hb] at h2; omega
    · rw [if_neg hb] at h h2
      cases k with
      | zero =>
        simp only [Bool.and_eq_true, decide_eq_true_eq, not_and] at hb
        cases b with
        | false => rfl
        | true => exact absurd (by omega) (hb rfl)
      | succ k => exact ih (i + 1) (by omega) h k (by omega) (by omega)

theorem fix_run (f : Form) (on : List Bool) (t : Int) (hp : (f.2.2.1.length : Int) ≤ 1000000000000) (hw : (f.1.length : Int) ≤ 4611686018427387904) :
    (page_Fix f on t).run = some (if (decide (0 ≤ t) && (decide (t < (f.2.2.1.length : Int)) && nth (f.2.2.1.map (relP f.1 on)) t false)) = true then t
      else if (backOf (f.2.2.1.map (relP f.1 on)) t f.2.2.1.length).2 = true then (backOf (f.2.2.1.map (relP f.1 on)) t f.2.2.1.length).1
      else if nxt t 0 (f.2.2.1.map (relP f.1 on)) = -1 then 0 else nxt t 0 (f.2.2.1.map (relP f.1 on))) := by
  have hd : dflt .bool = false := rfl
  unfold page_Fix
  rw [T.run_bind_of (relevant_run f on hp hw), T.run_obl (fun h1 h2 => ⟨of_decide_eq_true h1, of_decide_eq_true h2⟩)]
  simp only [List.length_map, T.run_iteS, hd, T.run_ret]
  split
  · rfl
  · rw [T.run_bind_of (back_run f on t hp hw)]
    simp only [T.run_iteS, T.run_ret]
    split
    · rfl
    · rw [T.run_bind_of (next_run f on t hp hw)]
      split <;> rfl

theorem pageBack_run (f : Form) (on : List Bool) (t : Int) (hp : (f.2.2.1.length : Int) ≤ 1000000000000) (hw : (f.1.length : Int) ≤ 1000000000000) (hb : sumP f.2.2.1 + sumW f.1 ≤ 4611686018427387904) : (law18_PageBack f on t).run = some true := by
  have e1 := long_run f hb
  have e2 := relevant_run f on hp (by omega)
  have hd : dflt .bool = false := rfl
  simp only [law18_PageBack, T.run_bind, e1, Option.bind_some, T.run_iteS]
  split
  · rfl
  simp only [T.run_ret, Option.bind_some]
  split
  · rfl
  simp only [e2, Option.bind_some, List.length_map]
  rw [T.run_obl (fun h1 h2 => ⟨by have := of_decide_eq_false h1; omega, by have := of_decide_eq_false h2; omega⟩)]
  simp only [T.run_iteS, hd]
  by_cases hc : (decide (t < 0) || (decide ((f.2.2.1.length : Int) ≤ t) || !(nth (f.2.2.1.map (relP f.1 on)) t false))) = true
  · rw [if_pos hc]
    simp [known_run]
  rw [if_neg hc]
  simp only [Bool.or_eq_true, decide_eq_true_eq, Bool.not_eq_true', not_or, Bool.not_eq_false] at hc
  obtain ⟨c1, c2, c3⟩ := hc
  have hn := next_run f on t hp (by omega)
  have hbk := fun n => back_run f on n hp (by omega)
  have hfx := fix_run f on t hp (by omega)
  rw [if_pos (by simp [c3]; omega)] at hfx
  generalize hL : f.2.2.1.map (relP f.1 on) = l at hn hbk c3
  have hll : l.length = f.2.2.1.length := by rw [← hL, List.length_map]
  rw [T.run_bind_of hn]
  rcases nxt_spec t l 0 (Int.le_refl _) with ⟨k1, k2⟩ | ⟨k1, k2, k3, k4, k5⟩
  · rw [if_pos k1]
    simp [hfx, known_run]
  · have hne : ¬ nxt t 0 l = -1 := by omega
    rw [if_neg hne]
    have hB := backOf_eq l (nxt t 0 l) t.toNat (by simpa [nth] using c3) (by omega) (fun k h1 h2 => nxt_none t l 0 (by omega) hne k (by omega) (by omega)) f.2.2.1.length (by omega)
    have ht : ((t.toNat : Nat) : Int) = t := by omega
    rw [ht] at hB
    have hl2 : nth l (nxt t 0 l) false = true := by rw [Int.sub_zero] at k4; exact k4
    have q1 : ¬ nxt t 0 l ≤ t := by omega
    have q2 : ¬ (f.2.2.1.length : Int) ≤ nxt t 0 l := by omega
    simp only [T.run_bind, T.run_iteS, if_true, hbk, hB, Option.bind_some]
    rw [T.run_obl (fun _ _ _ _ => ⟨by omega, by omega⟩)]
    simp [q1, q2, hl2, hfx, known_run]

theorem law18_PageBack_law (x : denL [tyForm, .sl .bool, .int .i64]) (_ : wfL [tyForm, .sl .bool, .int .i64] x) (h : bkL [tyForm, .sl .bool, .int .i64] x ≤ 1048576) :
    (law18_PageBack (toPs [tyForm, .sl .bool, .int .i64] x).1 (toPs [tyForm, .sl .bool, .int .i64] x).2.1 (toPs [tyForm, .sl .bool, .int .i64] x).2.2).run = some true := by
  obtain ⟨f, on, t, ⟨⟩⟩ := x
  have h1 := sumP_bk f.2.2.1
  have h2 := sumW_bk f.1
  have h3 := sumP_len f.2.2.1
  have h4 := sumW_len f.1
  have e1 : bk tyForm f = (sumB (bk tySwitch) f.1 + 1) + (bk (.sl tyParam) f.2.1 + ((sumB (bk tyPage) f.2.2.1 + 1) + (bk (.sl tyField) f.2.2.2.1 + (bk (.sl tyRule) f.2.2.2.2.1 + (bk (.sl tyCheck) f.2.2.2.2.2.1 + 1))))) := rfl
  have e2 : bkL [tyForm, .sl .bool, .int .i64] (f, on, t, ()) = bk tyForm f + (bk (.sl .bool) on + (bk (.int .i64) t + 0)) := rfl
  rw [e2, e1] at h
  exact pageBack_run f on t (by omega) (by omega) (by omega)
end Go.AM.Lf
